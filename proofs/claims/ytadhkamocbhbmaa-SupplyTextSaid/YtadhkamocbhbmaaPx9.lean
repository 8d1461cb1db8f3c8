-- Printed for this claim by xprint.py of this session: contracts of this session's own stand in for what the print does not take
import Derived.Test.YtadhkamocbhbmaaPx0
import Derived.Test.YtadhkamocbhbmaaPx2
import Derived.Test.YtadhkamocbhbmaaPx3
import Derived.Test.YtadhkamocbhbmaaPx7
import Derived.Test.YtadhkamocbhbmaaPx8
namespace Go.Proofs.Ytadhkamocbhbmaa.P
open Go.RowKit Go.Proofs.YtadhkamocbhbmaaW.PrintWords Go.Proofs.YtadhkamocbhbmaaW.PrintLast Go.Proofs.YtadhkamocbhbmaaW.PrintMore
attribute [local go_sem] max2_int min2_int max_two min_two max_three min_three max_four min_four   -- for this text's walks alone
set_option linter.unusedVariables false
set_option linter.unusedSimpArgs false

/-! ### supply_Next: function 10 -/
set_option maxHeartbeats 8000000 in
set_option maxRecDepth 100000 in
theorem supply_Next.none0 (a0_0 : Int) (A0_1 : Option Addr) (c0_1 : Nat) (l0_1 : List Int) (A0_2 : Option Addr) (c0_2 : Nat) (l0_2 : List S37) (A0_3 : Option Addr) (c0_3 : Nat) (l0_3 : List S37) (a0_4 : Bool) (a0_5 : Bool) (a0_6 : Bool) (a1 : Int) (a2 : Int) (w : World)
  (hr0_1 : Kd.C (Kd.int .u8) w A0_1 l0_1.length l0_1) (hc0_1 : l0_1.length ≤ c0_1) (hr0_2 : Kd.C k37 w A0_2 l0_2.length l0_2) (hc0_2 : l0_2.length ≤ c0_2) (hr0_3 : Kd.C k37 w A0_3 l0_3.length l0_3) (hc0_3 : l0_3.length ≤ c0_3) (hL : l0_1.length < 1000000000 ∧ l0_2.length < 1000000000 ∧ l0_3.length < 1000000000 ∧ 0 ≤ a0_0 ∧ a0_0 + (l0_1.length : Int) ≤ 4611686018427387904) (h2 : l0_2.length = 0) (h5 : a0_5 = false) :
  Calls Try.prog 10 #[.agg #[.int .u64 a0_0,.slice A0_1 l0_1.length c0_1,.slice A0_2 l0_2.length c0_2,.slice A0_3 l0_3.length c0_3,.bool a0_4,.bool a0_5,.bool a0_6],.int .i64 a1,.int .u64 a2] w fun e w' => e = .returned (.tuple #[.agg #[.int .u64 a0_0,.slice A0_1 l0_1.length c0_1,.slice A0_2 l0_2.length c0_2,.slice A0_3 l0_3.length c0_3,.bool a0_4,.bool a0_5,.bool a0_6],.agg #[.int .u64 0,.slice none 0 0,.bool false],.bool false]) ∧ Below w.heap.size w w':=by
 subst h5
 have HR1:=Aside0.mk hr0_1
 have HC1:=Aside0.mk hc0_1
 have HR2:=Aside0.mk hr0_2
 have HC2:=Aside0.mk hc0_2
 have HR3:=Aside0.mk hr0_3
 have HC3:=Aside0.mk hc0_3
 have HB:=Aside0.mk (Below.refl w.heap.size w)
 clear hr0_1 hc0_1 hr0_2 hc0_2 hr0_3 hc0_3
 obtain ⟨e,he⟩ : ∃ e : Int,e = a0_0 + (l0_1.length : Int):=⟨_,rfl⟩
 have HL:=Aside0.mk hL
 have HE:=Aside0.mk he
 have HV : Aside0 (IntKind.u64.wrap (a0_0 + IntKind.u64.wrap (l0_1.length : Int)) = e):=⟨by rw [IntKind.wrap_u64,IntKind.wrap_u64];omega⟩
 have k0 : ((l0_2.length : Int) == 0) = true:=beq_iff_eq.mpr (by omega)
 have k1 : (l0_2.length == 0) = true:=beq_iff_eq.mpr h2
 clear h2
 clear hL he
 go_enter Try.func10,Try.ntmps10
 go_upto_region 2 with (first
  | ((with_reducible refine gate_dst (N:=3) rfl ?_);refine box_event ?hg (N:=3) ?hd (cs:=#[.int .u64 a0_0,.slice A0_1 l0_1.length c0_1,.slice A0_2 l0_2.length c0_2,.slice A0_3 l0_3.length c0_3,.bool a0_4,.bool false,.bool a0_6]) (t:=27) ?hr ?_;(case hd => rfl);(case hg => rfl);(case hr => first | (go_simp;done) | (go_simp;rfl));intro g3 hg w2 hbox hb;have GE_g3:=Aside0.mk (show w.heap.size ≤ g3 by rw [hg];exact HB.out.size);have n1_:=Aside0.mk (below_step HB.out hb);clear HB;have HB:=n1_;clear n1_;have BK_g3:=Aside0.mk hbox;clear hbox hb hg)
  | ((with_reducible refine gate_dst (N:=6) rfl ?_);refine box_event ?hg (N:=6) ?hd (cs:=#[.int .u64 0,.slice none 0 0,.slice none 0 0,.slice none 0 0,.bool false,.bool false,.bool false]) (t:=27) ?hr ?_;(case hd => rfl);(case hg => rfl);(case hr => first | (go_simp;done) | (go_simp;rfl));intro g6 hg w3 hbox hb;have GE_g6:=Aside0.mk (show w.heap.size ≤ g6 by rw [hg];exact HB.out.size);have NB_g3_g6 : g3 ≠ g6:=(by rw [hg];exact Nat.ne_of_lt (blk_lt BK_g3.out));have NB_g6_g3:=NB_g3_g6.symm;have n2_:=Aside0.mk (below_step HB.out hb);have n3_:=Aside0.mk (blk_below BK_g3.out hb);clear HB BK_g3;have HB:=n2_;have BK_g3:=n3_;clear n2_ n3_;have BK_g6:=Aside0.mk hbox;clear hbox hb hg)
  | ((with_reducible refine gate_dst (N:=7) rfl ?_);refine box_event ?hg (N:=7) ?hd (cs:=#[.int .u64 0,.slice none 0 0,.bool false]) (t:=32) ?hr ?_;(case hd => rfl);(case hg => rfl);(case hr => first | (go_simp;done) | (go_simp;rfl));intro g7 hg w4 hbox hb;have GE_g7:=Aside0.mk (show w.heap.size ≤ g7 by rw [hg];exact HB.out.size);have NB_g3_g7 : g3 ≠ g7:=(by rw [hg];exact Nat.ne_of_lt (blk_lt BK_g3.out));have NB_g7_g3:=NB_g3_g7.symm;have NB_g6_g7 : g6 ≠ g7:=(by rw [hg];exact Nat.ne_of_lt (blk_lt BK_g6.out));have NB_g7_g6:=NB_g6_g7.symm;have n4_:=Aside0.mk (below_step HB.out hb);have n5_:=Aside0.mk (blk_below BK_g3.out hb);have n6_:=Aside0.mk (blk_below BK_g6.out hb);clear HB BK_g3 BK_g6;have HB:=n4_;have BK_g3:=n5_;have BK_g6:=n6_;clear n4_ n5_ n6_;have BK_g7:=Aside0.mk hbox;clear hbox hb hg;obtain ⟨hx_g3_0,hf_g3_0,hx_g3_1,hf_g3_1,hx_g3_2,hf_g3_2,hx_g3_3,hf_g3_3,hx_g3_4,hf_g3_4,hx_g3_5,hf_g3_5,hx_g3_6,hf_g3_6⟩:=cells7 BK_g3.out)
  | ((with_reducible refine gate_callee (f:=15) rfl ?_);refine goesL_ (some 12) rfl rfl Try.func15 (by kernel_rfl) rfl #[.agg #[.int .u64 a0_0,.slice A0_1 l0_1.length c0_1,.slice A0_2 l0_2.length c0_2,.slice A0_3 l0_3.length c0_3,.bool a0_4,.bool false,.bool a0_6]] rfl (by (try simp only [List.map_toArray,List.map_cons,List.map_nil]);first | done | rfl) ?_;refine (supply_End.calls a0_0 _ _ l0_1 _ _ l0_2 _ _ l0_3 a0_4 false a0_6 e _ (Kd.C_below HR1.out HB.out) HC1.out (Kd.C_below HR2.out HB.out) HC2.out (Kd.C_below HR3.out HB.out) HC3.out (by unfold supply_End.f;rw [HV.out])).mono ?_;rintro e_ w5 ⟨rfl,hb⟩;refine ⟨_,rfl,?_⟩;clear hx_g3_0 hf_g3_0 hx_g3_1 hf_g3_1 hx_g3_2 hf_g3_2 hx_g3_3 hf_g3_3 hx_g3_4 hf_g3_4 hx_g3_5 hf_g3_5 hx_g3_6 hf_g3_6;have n7_:=Aside0.mk (below_step HB.out hb);have n8_:=Aside0.mk (blk_below BK_g3.out hb);have n9_:=Aside0.mk (blk_below BK_g6.out hb);have n10_:=Aside0.mk (blk_below BK_g7.out hb);clear HB BK_g3 BK_g6 BK_g7;have HB:=n7_;have BK_g3:=n8_;have BK_g6:=n9_;have BK_g7:=n10_;clear n7_ n8_ n9_ n10_;clear hb)
  | ((with_reducible refine gate_dst (N:=9) rfl ?_);refine box_event ?hg (N:=9) ?hd (cs:=#[.int .u64 0,.slice none 0 0,.bool false]) (t:=32) ?hr ?_;(case hd => rfl);(case hg => rfl);(case hr => first | (go_simp;done) | (go_simp;rfl));intro g9 hg w6 hbox hb;have GE_g9:=Aside0.mk (show w.heap.size ≤ g9 by rw [hg];exact HB.out.size);have NB_g3_g9 : g3 ≠ g9:=(by rw [hg];exact Nat.ne_of_lt (blk_lt BK_g3.out));have NB_g9_g3:=NB_g3_g9.symm;have NB_g6_g9 : g6 ≠ g9:=(by rw [hg];exact Nat.ne_of_lt (blk_lt BK_g6.out));have NB_g9_g6:=NB_g6_g9.symm;have NB_g7_g9 : g7 ≠ g9:=(by rw [hg];exact Nat.ne_of_lt (blk_lt BK_g7.out));have NB_g9_g7:=NB_g7_g9.symm;have n11_:=Aside0.mk (below_step HB.out hb);have n12_:=Aside0.mk (blk_below BK_g3.out hb);have n13_:=Aside0.mk (blk_below BK_g6.out hb);have n14_:=Aside0.mk (blk_below BK_g7.out hb);clear HB BK_g3 BK_g6 BK_g7;have HB:=n11_;have BK_g3:=n12_;have BK_g6:=n13_;have BK_g7:=n14_;clear n11_ n12_ n13_ n14_;have BK_g9:=Aside0.mk hbox;clear hbox hb hg;obtain ⟨hx_g9_0,hf_g9_0,hx_g9_1,hf_g9_1,hx_g9_2,hf_g9_2⟩:=cells3 BK_g9.out))
 clear hx_g9_0 hf_g9_0 hx_g9_1 hf_g9_1 hx_g9_2 hf_g9_2
 obtain ⟨w7,hw15_⟩ : ∃ w_ : World,set3 w6 g9 (.int .u64 e) (.slice none 0 0) (.bool false) = w_:=⟨_,rfl⟩
 have n16_:=Aside0.mk (blk3 hw15_ BK_g9.out)
 have n17_:=Aside0.mk (far3 hw15_ NB_g3_g9 BK_g3.out)
 have n18_:=Aside0.mk (far3 hw15_ NB_g6_g9 BK_g6.out)
 have n19_:=Aside0.mk (far3 hw15_ NB_g7_g9 BK_g7.out)
 have n20_:=Aside0.mk (below3 hw15_ GE_g9.out HB.out)
 rw [set3_fold,hw15_]
 clear hw15_ BK_g9 BK_g3 BK_g6 BK_g7 HB
 have BK_g9:=n16_
 have BK_g3:=n17_
 have BK_g6:=n18_
 have BK_g7:=n19_
 have HB:=n20_
 clear n16_ n17_ n18_ n19_ n20_
 obtain ⟨hx_g9_0,hf_g9_0,hx_g9_1,hf_g9_1,hx_g9_2,hf_g9_2⟩:=cells3 BK_g9.out
 go_upto_block 0 with (first
  | ((with_reducible refine gate_dst (N:=10) rfl ?_);refine box_event ?hg (N:=10) ?hd (cs:=#[.int .u64 0]) (t:=24) ?hr ?_;(case hd => rfl);(case hg => rfl);(case hr => first | (go_simp;done) | (go_simp;rfl));intro g10 hg w8 hbox hb;have GE_g10:=Aside0.mk (show w.heap.size ≤ g10 by rw [hg];exact HB.out.size);have NB_g3_g10 : g3 ≠ g10:=(by rw [hg];exact Nat.ne_of_lt (blk_lt BK_g3.out));have NB_g10_g3:=NB_g3_g10.symm;have NB_g6_g10 : g6 ≠ g10:=(by rw [hg];exact Nat.ne_of_lt (blk_lt BK_g6.out));have NB_g10_g6:=NB_g6_g10.symm;have NB_g7_g10 : g7 ≠ g10:=(by rw [hg];exact Nat.ne_of_lt (blk_lt BK_g7.out));have NB_g10_g7:=NB_g7_g10.symm;have NB_g9_g10 : g9 ≠ g10:=(by rw [hg];exact Nat.ne_of_lt (blk_lt BK_g9.out));have NB_g10_g9:=NB_g9_g10.symm;clear hx_g9_0 hf_g9_0 hx_g9_1 hf_g9_1 hx_g9_2 hf_g9_2;have n21_:=Aside0.mk (below_step HB.out hb);have n22_:=Aside0.mk (blk_below BK_g3.out hb);have n23_:=Aside0.mk (blk_below BK_g6.out hb);have n24_:=Aside0.mk (blk_below BK_g7.out hb);have n25_:=Aside0.mk (blk_below BK_g9.out hb);clear HB BK_g3 BK_g6 BK_g7 BK_g9;have HB:=n21_;have BK_g3:=n22_;have BK_g6:=n23_;have BK_g7:=n24_;have BK_g9:=n25_;clear n21_ n22_ n23_ n24_ n25_;have BK_g10:=Aside0.mk hbox;clear hbox hb hg;obtain ⟨hx_g10_0,hf_g10_0⟩:=cells1 BK_g10.out))
 clear hx_g10_0 hf_g10_0
 have n26_ : Aside0 ((w8.setCell ⟨g10,0,none⟩ (.int .u64 e)).heap[g10]? = some (.cells #[.int .u64 e] 24 (0,0))):=⟨blk_put (BK_g10.out) 0 (.int .u64 e) (cs':=#[.int .u64 e]) rfl⟩
 have n27_ : Aside0 ((w8.setCell ⟨g10,0,none⟩ (.int .u64 e)).heap[g3]? = some (.cells #[.int .u64 a0_0,.slice A0_1 l0_1.length c0_1,.slice A0_2 l0_2.length c0_2,.slice A0_3 l0_3.length c0_3,.bool a0_4,.bool false,.bool a0_6] 27 (0,0))):=⟨blk_far (p:=⟨g10,0,none⟩) (BK_g3.out) NB_g3_g10 (.int .u64 e)⟩
 have n28_ : Aside0 ((w8.setCell ⟨g10,0,none⟩ (.int .u64 e)).heap[g6]? = some (.cells #[.int .u64 0,.slice none 0 0,.slice none 0 0,.slice none 0 0,.bool false,.bool false,.bool false] 27 (0,0))):=⟨blk_far (p:=⟨g10,0,none⟩) (BK_g6.out) NB_g6_g10 (.int .u64 e)⟩
 have n29_ : Aside0 ((w8.setCell ⟨g10,0,none⟩ (.int .u64 e)).heap[g7]? = some (.cells #[.int .u64 0,.slice none 0 0,.bool false] 32 (0,0))):=⟨blk_far (p:=⟨g10,0,none⟩) (BK_g7.out) NB_g7_g10 (.int .u64 e)⟩
 have n30_ : Aside0 ((w8.setCell ⟨g10,0,none⟩ (.int .u64 e)).heap[g9]? = some (.cells #[.int .u64 e,.slice none 0 0,.bool false] 32 (0,0))):=⟨blk_far (p:=⟨g10,0,none⟩) (BK_g9.out) NB_g9_g10 (.int .u64 e)⟩
 have n31_ : Aside0 (Below w.heap.size w (w8.setCell ⟨g10,0,none⟩ (.int .u64 e))):=⟨below_set (HB.out) GE_g10.out (j:=0) (v:=.int .u64 e)⟩
 clear BK_g10 BK_g3 BK_g6 BK_g7 BK_g9 HB
 have BK_g10:=n26_
 have BK_g3:=n27_
 have BK_g6:=n28_
 have BK_g7:=n29_
 have BK_g9:=n30_
 have HB:=n31_
 clear n26_ n27_ n28_ n29_ n30_ n31_
 generalize (w8.setCell ⟨g10,0,none⟩ (.int .u64 e)) = w9 at BK_g10 BK_g3 BK_g6 BK_g7 BK_g9 HB ⊢
 obtain ⟨hx_g3_0,hf_g3_0,hx_g3_1,hf_g3_1,hx_g3_2,hf_g3_2,hx_g3_3,hf_g3_3,hx_g3_4,hf_g3_4,hx_g3_5,hf_g3_5,hx_g3_6,hf_g3_6⟩:=cells7 BK_g3.out
 obtain ⟨hx_g9_0,hf_g9_0,hx_g9_1,hf_g9_1,hx_g9_2,hf_g9_2⟩:=cells3 BK_g9.out
 obtain ⟨hx_g10_0,hf_g10_0⟩:=cells1 BK_g10.out
 obtain ⟨hx_g6_0,hf_g6_0,hx_g6_1,hf_g6_1,hx_g6_2,hf_g6_2,hx_g6_3,hf_g6_3,hx_g6_4,hf_g6_4,hx_g6_5,hf_g6_5,hx_g6_6,hf_g6_6⟩:=cells7 BK_g6.out
 obtain ⟨hx_g7_0,hf_g7_0,hx_g7_1,hf_g7_1,hx_g7_2,hf_g7_2⟩:=cells3 BK_g7.out
 go_wp2
 refine bodyPost_ret (results_list (rs:=[.cell 6 27,.cell 7 32,.tmp 8]) rfl (by simp) (.cell g6 27 #[.int .u64 a0_0,.slice A0_1 l0_1.length c0_1,.slice A0_2 l0_2.length c0_2,.slice A0_3 l0_3.length c0_3,.bool a0_4,.bool false,.bool a0_6] (0,0) _ rfl (blk_far (p:=⟨g7,2,none⟩) (blk_far (p:=⟨g7,1,none⟩) (blk_far (p:=⟨g7,0,none⟩) (blk_put7 BK_g6.out) NB_g6_g7 (.int .u64 0)) NB_g6_g7 (.slice none 0 0)) NB_g6_g7 (.bool false)) Try.underlying27 rfl (by kernel_rfl) (.cell g7 32 #[.int .u64 0,.slice none 0 0,.bool false] (0,0) _ rfl (blk_put (cs':=#[.int .u64 0,.slice none 0 0,.bool false]) (blk_put (cs':=#[.int .u64 0,.slice none 0 0,.bool false]) (blk_put (cs':=#[.int .u64 0,.slice none 0 0,.bool false]) (blk_far7 BK_g7.out NB_g7_g6) 0 (.int .u64 0) rfl) 1 (.slice none 0 0) rfl) 2 (.bool false) rfl) Try.underlying32 rfl (by kernel_rfl) (.tmp .nil)))) rfl ?_
 exact ⟨rfl,below_set (below_set (below_set (below_set7 HB.out GE_g6.out) GE_g7.out (j:=0) (v:=.int .u64 0)) GE_g7.out (j:=1) (v:=.slice none 0 0)) GE_g7.out (j:=2) (v:=.bool false)⟩
set_option maxHeartbeats 8000000 in
set_option maxRecDepth 100000 in
theorem supply_Next.none1 (a0_0 : Int) (A0_1 : Option Addr) (c0_1 : Nat) (l0_1 : List Int) (A0_2 : Option Addr) (c0_2 : Nat) (l0_2 : List S37) (A0_3 : Option Addr) (c0_3 : Nat) (l0_3 : List S37) (a0_4 : Bool) (a0_5 : Bool) (a0_6 : Bool) (a1 : Int) (a2 : Int) (w : World)
  (hr0_1 : Kd.C (Kd.int .u8) w A0_1 l0_1.length l0_1) (hc0_1 : l0_1.length ≤ c0_1) (hr0_2 : Kd.C k37 w A0_2 l0_2.length l0_2) (hc0_2 : l0_2.length ≤ c0_2) (hr0_3 : Kd.C k37 w A0_3 l0_3.length l0_3) (hc0_3 : l0_3.length ≤ c0_3) (hL : l0_1.length < 1000000000 ∧ l0_2.length < 1000000000 ∧ l0_3.length < 1000000000 ∧ 0 ≤ a0_0 ∧ a0_0 + (l0_1.length : Int) ≤ 4611686018427387904) (h2 : 0 < l0_2.length) (h6 : a1 ≤ 0 ∨ mn (rd_T37 l0_2 0).f1 a2 ≤ (rd_T37 l0_2 0).f0) :
  Calls Try.prog 10 #[.agg #[.int .u64 a0_0,.slice A0_1 l0_1.length c0_1,.slice A0_2 l0_2.length c0_2,.slice A0_3 l0_3.length c0_3,.bool a0_4,.bool a0_5,.bool a0_6],.int .i64 a1,.int .u64 a2] w fun e w' => e = .returned (.tuple #[.agg #[.int .u64 a0_0,.slice A0_1 l0_1.length c0_1,.slice A0_2 l0_2.length c0_2,.slice A0_3 l0_3.length c0_3,.bool a0_4,.bool a0_5,.bool a0_6],.agg #[.int .u64 0,.slice none 0 0,.bool false],.bool false]) ∧ Below w.heap.size w w':=by
 have HR1:=Aside0.mk hr0_1
 have HC1:=Aside0.mk hc0_1
 have HR2:=Aside0.mk hr0_2
 have HC2:=Aside0.mk hc0_2
 have HR3:=Aside0.mk hr0_3
 have HC3:=Aside0.mk hc0_3
 have HB:=Aside0.mk (Below.refl w.heap.size w)
 clear hr0_1 hc0_1 hr0_2 hc0_2 hr0_3 hc0_3
 obtain ⟨e,he⟩ : ∃ e : Int,e = a0_0 + (l0_1.length : Int):=⟨_,rfl⟩
 have HL:=Aside0.mk hL
 have HE:=Aside0.mk he
 have HV : Aside0 (IntKind.u64.wrap (a0_0 + IntKind.u64.wrap (l0_1.length : Int)) = e):=⟨by rw [IntKind.wrap_u64,IntKind.wrap_u64];omega⟩
 obtain ⟨x0,hx0⟩ : ∃ x_ : Int,(rd_T37 l0_2 0).f0 = x_:=⟨_,rfl⟩
 obtain ⟨x1,hx1⟩ : ∃ x_ : Int,(rd_T37 l0_2 0).f1 = x_:=⟨_,rfl⟩
 rw [hx0,hx1] at h6
 obtain ⟨ad,e_,hxa,hxb⟩:=at_T37 HR2.out 0 (by omega) (by omega)
 subst e_
 (try rw [show ((0 : Int)).toNat = 0 from rfl] at hxa)
 (try rw [show 0 * 2 = 0 from rfl] at hxa)
 (try rw [Addr.add_zero'] at hxa)
 (try rw [show ((0 : Int)).toNat = 0 from rfl] at hxb)
 (try rw [show 0 * 2 = 0 from rfl] at hxb)
 (try rw [Addr.add_zero'] at hxb)
 have qi_ : (0 < l0_2.length) = True:=eq_true (by omega)
 have qj_ : ((0 : Int) < (l0_2.length : Int)) = True:=eq_true (by omega)
 have HXA:=Aside0.mk hxa
 have HXB:=Aside0.mk hxb
 clear hxa hxb
 rw [hx0] at HXA
 rw [hx1] at HXB
 obtain ⟨tq,htq⟩ : ∃ x_ : Int,mn x1 a2 = x_:=⟨_,rfl⟩
 have htq_ : (if a2 < x1 then a2 else x1) = tq:=htq
 rw [htq] at h6
 have k0 : ((l0_2.length : Int) == 0) = false:=beq_eq_false_iff_ne.mpr (by omega)
 have k1 : (l0_2.length == 0) = false:=beq_eq_false_iff_ne.mpr (by omega)
 have k2 : decide ((l0_2.length : Int) > 0) = true:=decide_eq_true (by omega)
 have k3 : decide ((0 : Int) < (l0_2.length : Int)) = true:=decide_eq_true (by omega)
 have k4 : decide (0 < l0_2.length) = true:=decide_eq_true (by omega)
 have H6:=Aside0.mk h6
 clear h2 h6
 clear hL he
 go_enter Try.func10,Try.ntmps10
 go_upto_region 2 with (first
  | ((with_reducible refine gate_dst (N:=3) rfl ?_);refine box_event ?hg (N:=3) ?hd (cs:=#[.int .u64 a0_0,.slice A0_1 l0_1.length c0_1,.slice (some ad) l0_2.length c0_2,.slice A0_3 l0_3.length c0_3,.bool a0_4,.bool a0_5,.bool a0_6]) (t:=27) ?hr ?_;(case hd => rfl);(case hg => rfl);(case hr => first | (go_simp;done) | (go_simp;rfl));intro g3 hg w2 hbox hb;have GE_g3:=Aside0.mk (show w.heap.size ≤ g3 by rw [hg];exact HB.out.size);have n1_:=Aside0.mk (below_step HB.out hb);clear HB;have HB:=n1_;clear n1_;have BK_g3:=Aside0.mk hbox;clear hbox hb hg)
  | ((with_reducible refine gate_dst (N:=6) rfl ?_);refine box_event ?hg (N:=6) ?hd (cs:=#[.int .u64 0,.slice none 0 0,.slice none 0 0,.slice none 0 0,.bool false,.bool false,.bool false]) (t:=27) ?hr ?_;(case hd => rfl);(case hg => rfl);(case hr => first | (go_simp;done) | (go_simp;rfl));intro g6 hg w3 hbox hb;have GE_g6:=Aside0.mk (show w.heap.size ≤ g6 by rw [hg];exact HB.out.size);have NB_g3_g6 : g3 ≠ g6:=(by rw [hg];exact Nat.ne_of_lt (blk_lt BK_g3.out));have NB_g6_g3:=NB_g3_g6.symm;have n2_:=Aside0.mk (below_step HB.out hb);have n3_:=Aside0.mk (blk_below BK_g3.out hb);clear HB BK_g3;have HB:=n2_;have BK_g3:=n3_;clear n2_ n3_;have BK_g6:=Aside0.mk hbox;clear hbox hb hg)
  | ((with_reducible refine gate_dst (N:=7) rfl ?_);refine box_event ?hg (N:=7) ?hd (cs:=#[.int .u64 0,.slice none 0 0,.bool false]) (t:=32) ?hr ?_;(case hd => rfl);(case hg => rfl);(case hr => first | (go_simp;done) | (go_simp;rfl));intro g7 hg w4 hbox hb;have GE_g7:=Aside0.mk (show w.heap.size ≤ g7 by rw [hg];exact HB.out.size);have NB_g3_g7 : g3 ≠ g7:=(by rw [hg];exact Nat.ne_of_lt (blk_lt BK_g3.out));have NB_g7_g3:=NB_g3_g7.symm;have NB_g6_g7 : g6 ≠ g7:=(by rw [hg];exact Nat.ne_of_lt (blk_lt BK_g6.out));have NB_g7_g6:=NB_g6_g7.symm;have n4_:=Aside0.mk (below_step HB.out hb);have n5_:=Aside0.mk (blk_below BK_g3.out hb);have n6_:=Aside0.mk (blk_below BK_g6.out hb);clear HB BK_g3 BK_g6;have HB:=n4_;have BK_g3:=n5_;have BK_g6:=n6_;clear n4_ n5_ n6_;have BK_g7:=Aside0.mk hbox;clear hbox hb hg;obtain ⟨hx_g3_0,hf_g3_0,hx_g3_1,hf_g3_1,hx_g3_2,hf_g3_2,hx_g3_3,hf_g3_3,hx_g3_4,hf_g3_4,hx_g3_5,hf_g3_5,hx_g3_6,hf_g3_6⟩:=cells7 BK_g3.out)
  | ((with_reducible refine gate_callee (f:=15) rfl ?_);refine goesL_ (some 12) rfl rfl Try.func15 (by kernel_rfl) rfl #[.agg #[.int .u64 a0_0,.slice A0_1 l0_1.length c0_1,.slice (some ad) l0_2.length c0_2,.slice A0_3 l0_3.length c0_3,.bool a0_4,.bool a0_5,.bool a0_6]] rfl (by (try simp only [List.map_toArray,List.map_cons,List.map_nil]);first | done | rfl) ?_;refine (supply_End.calls a0_0 _ _ l0_1 _ _ l0_2 _ _ l0_3 a0_4 a0_5 a0_6 e _ (Kd.C_below HR1.out HB.out) HC1.out (Kd.C_below HR2.out HB.out) HC2.out (Kd.C_below HR3.out HB.out) HC3.out (by unfold supply_End.f;rw [HV.out])).mono ?_;rintro e_ w5 ⟨rfl,hb⟩;refine ⟨_,rfl,?_⟩;clear hx_g3_0 hf_g3_0 hx_g3_1 hf_g3_1 hx_g3_2 hf_g3_2 hx_g3_3 hf_g3_3 hx_g3_4 hf_g3_4 hx_g3_5 hf_g3_5 hx_g3_6 hf_g3_6;have n7_:=Aside0.mk (below_step HB.out hb);have n8_:=Aside0.mk (blk_below BK_g3.out hb);have n9_:=Aside0.mk (blk_below BK_g6.out hb);have n10_:=Aside0.mk (blk_below BK_g7.out hb);clear HB BK_g3 BK_g6 BK_g7;have HB:=n7_;have BK_g3:=n8_;have BK_g6:=n9_;have BK_g7:=n10_;clear n7_ n8_ n9_ n10_;clear hb)
  | ((with_reducible refine gate_dst (N:=9) rfl ?_);refine box_event ?hg (N:=9) ?hd (cs:=#[.int .u64 0,.slice none 0 0,.bool false]) (t:=32) ?hr ?_;(case hd => rfl);(case hg => rfl);(case hr => first | (go_simp;done) | (go_simp;rfl));intro g9 hg w6 hbox hb;have GE_g9:=Aside0.mk (show w.heap.size ≤ g9 by rw [hg];exact HB.out.size);have NB_g3_g9 : g3 ≠ g9:=(by rw [hg];exact Nat.ne_of_lt (blk_lt BK_g3.out));have NB_g9_g3:=NB_g3_g9.symm;have NB_g6_g9 : g6 ≠ g9:=(by rw [hg];exact Nat.ne_of_lt (blk_lt BK_g6.out));have NB_g9_g6:=NB_g6_g9.symm;have NB_g7_g9 : g7 ≠ g9:=(by rw [hg];exact Nat.ne_of_lt (blk_lt BK_g7.out));have NB_g9_g7:=NB_g7_g9.symm;have n11_:=Aside0.mk (below_step HB.out hb);have n12_:=Aside0.mk (blk_below BK_g3.out hb);have n13_:=Aside0.mk (blk_below BK_g6.out hb);have n14_:=Aside0.mk (blk_below BK_g7.out hb);clear HB BK_g3 BK_g6 BK_g7;have HB:=n11_;have BK_g3:=n12_;have BK_g6:=n13_;have BK_g7:=n14_;clear n11_ n12_ n13_ n14_;have BK_g9:=Aside0.mk hbox;clear hbox hb hg;obtain ⟨hx_g9_0,hf_g9_0,hx_g9_1,hf_g9_1,hx_g9_2,hf_g9_2⟩:=cells3 BK_g9.out))
 clear hx_g9_0 hf_g9_0 hx_g9_1 hf_g9_1 hx_g9_2 hf_g9_2
 obtain ⟨w7,hw15_⟩ : ∃ w_ : World,set3 w6 g9 (.int .u64 e) (.slice none 0 0) (.bool false) = w_:=⟨_,rfl⟩
 have n16_:=Aside0.mk (blk3 hw15_ BK_g9.out)
 have n17_:=Aside0.mk (far3 hw15_ NB_g3_g9 BK_g3.out)
 have n18_:=Aside0.mk (far3 hw15_ NB_g6_g9 BK_g6.out)
 have n19_:=Aside0.mk (far3 hw15_ NB_g7_g9 BK_g7.out)
 have n20_:=Aside0.mk (below3 hw15_ GE_g9.out HB.out)
 rw [set3_fold,hw15_]
 clear hw15_ BK_g9 BK_g3 BK_g6 BK_g7 HB
 have BK_g9:=n16_
 have BK_g3:=n17_
 have BK_g6:=n18_
 have BK_g7:=n19_
 have HB:=n20_
 clear n16_ n17_ n18_ n19_ n20_
 obtain ⟨hx_g9_0,hf_g9_0,hx_g9_1,hf_g9_1,hx_g9_2,hf_g9_2⟩:=cells3 BK_g9.out
 go_upto_block 0 with (first
  | ((with_reducible refine gate_dst (N:=10) rfl ?_);refine box_event ?hg (N:=10) ?hd (cs:=#[.int .u64 0]) (t:=24) ?hr ?_;(case hd => rfl);(case hg => rfl);(case hr => first | (go_simp;done) | (go_simp;rfl));intro g10 hg w8 hbox hb;have GE_g10:=Aside0.mk (show w.heap.size ≤ g10 by rw [hg];exact HB.out.size);have NB_g3_g10 : g3 ≠ g10:=(by rw [hg];exact Nat.ne_of_lt (blk_lt BK_g3.out));have NB_g10_g3:=NB_g3_g10.symm;have NB_g6_g10 : g6 ≠ g10:=(by rw [hg];exact Nat.ne_of_lt (blk_lt BK_g6.out));have NB_g10_g6:=NB_g6_g10.symm;have NB_g7_g10 : g7 ≠ g10:=(by rw [hg];exact Nat.ne_of_lt (blk_lt BK_g7.out));have NB_g10_g7:=NB_g7_g10.symm;have NB_g9_g10 : g9 ≠ g10:=(by rw [hg];exact Nat.ne_of_lt (blk_lt BK_g9.out));have NB_g10_g9:=NB_g9_g10.symm;clear hx_g9_0 hf_g9_0 hx_g9_1 hf_g9_1 hx_g9_2 hf_g9_2;have n21_:=Aside0.mk (below_step HB.out hb);have n22_:=Aside0.mk (blk_below BK_g3.out hb);have n23_:=Aside0.mk (blk_below BK_g6.out hb);have n24_:=Aside0.mk (blk_below BK_g7.out hb);have n25_:=Aside0.mk (blk_below BK_g9.out hb);clear HB BK_g3 BK_g6 BK_g7 BK_g9;have HB:=n21_;have BK_g3:=n22_;have BK_g6:=n23_;have BK_g7:=n24_;have BK_g9:=n25_;clear n21_ n22_ n23_ n24_ n25_;have BK_g10:=Aside0.mk hbox;clear hbox hb hg;obtain ⟨hx_g10_0,hf_g10_0⟩:=cells1 BK_g10.out))
 clear hx_g10_0 hf_g10_0
 have n26_ : Aside0 ((w8.setCell ⟨g10,0,none⟩ (.int .u64 e)).heap[g10]? = some (.cells #[.int .u64 e] 24 (0,0))):=⟨blk_put (BK_g10.out) 0 (.int .u64 e) (cs':=#[.int .u64 e]) rfl⟩
 have n27_ : Aside0 ((w8.setCell ⟨g10,0,none⟩ (.int .u64 e)).heap[g3]? = some (.cells #[.int .u64 a0_0,.slice A0_1 l0_1.length c0_1,.slice (some ad) l0_2.length c0_2,.slice A0_3 l0_3.length c0_3,.bool a0_4,.bool a0_5,.bool a0_6] 27 (0,0))):=⟨blk_far (p:=⟨g10,0,none⟩) (BK_g3.out) NB_g3_g10 (.int .u64 e)⟩
 have n28_ : Aside0 ((w8.setCell ⟨g10,0,none⟩ (.int .u64 e)).heap[g6]? = some (.cells #[.int .u64 0,.slice none 0 0,.slice none 0 0,.slice none 0 0,.bool false,.bool false,.bool false] 27 (0,0))):=⟨blk_far (p:=⟨g10,0,none⟩) (BK_g6.out) NB_g6_g10 (.int .u64 e)⟩
 have n29_ : Aside0 ((w8.setCell ⟨g10,0,none⟩ (.int .u64 e)).heap[g7]? = some (.cells #[.int .u64 0,.slice none 0 0,.bool false] 32 (0,0))):=⟨blk_far (p:=⟨g10,0,none⟩) (BK_g7.out) NB_g7_g10 (.int .u64 e)⟩
 have n30_ : Aside0 ((w8.setCell ⟨g10,0,none⟩ (.int .u64 e)).heap[g9]? = some (.cells #[.int .u64 e,.slice none 0 0,.bool false] 32 (0,0))):=⟨blk_far (p:=⟨g10,0,none⟩) (BK_g9.out) NB_g9_g10 (.int .u64 e)⟩
 have n31_ : Aside0 (Below w.heap.size w (w8.setCell ⟨g10,0,none⟩ (.int .u64 e))):=⟨below_set (HB.out) GE_g10.out (j:=0) (v:=.int .u64 e)⟩
 clear BK_g10 BK_g3 BK_g6 BK_g7 BK_g9 HB
 have BK_g10:=n26_
 have BK_g3:=n27_
 have BK_g6:=n28_
 have BK_g7:=n29_
 have BK_g9:=n30_
 have HB:=n31_
 clear n26_ n27_ n28_ n29_ n30_ n31_
 generalize (w8.setCell ⟨g10,0,none⟩ (.int .u64 e)) = w9 at BK_g10 BK_g3 BK_g6 BK_g7 BK_g9 HB ⊢
 obtain ⟨hx_g3_0,hf_g3_0,hx_g3_1,hf_g3_1,hx_g3_2,hf_g3_2,hx_g3_3,hf_g3_3,hx_g3_4,hf_g3_4,hx_g3_5,hf_g3_5,hx_g3_6,hf_g3_6⟩:=cells7 BK_g3.out
 obtain ⟨hx_g9_0,hf_g9_0,hx_g9_1,hf_g9_1,hx_g9_2,hf_g9_2⟩:=cells3 BK_g9.out
 obtain ⟨hx_g10_0,hf_g10_0⟩:=cells1 BK_g10.out
 go_upto_region 6 with fail
 have hxa_:=(HB.out.cell (World.block_lt_of_cell? w _ HXA.out)).trans HXA.out
 have hxb_:=(HB.out.cell (World.block_lt_of_cell? w _ HXB.out)).trans HXB.out
 go_region
 clear hxa_ hxb_
 clear hx_g3_0 hf_g3_0 hx_g3_1 hf_g3_1 hx_g3_2 hf_g3_2 hx_g3_3 hf_g3_3 hx_g3_4 hf_g3_4 hx_g3_5 hf_g3_5 hx_g3_6 hf_g3_6 hx_g9_0 hf_g9_0 hx_g9_1 hf_g9_1 hx_g9_2 hf_g9_2 hx_g10_0 hf_g10_0
 have n32_ : Aside0 ((w9.setCell ⟨g9,0,none⟩ (.int .u64 x0)).heap[g9]? = some (.cells #[.int .u64 x0,.slice none 0 0,.bool false] 32 (0,0))):=⟨blk_put (BK_g9.out) 0 (.int .u64 x0) (cs':=#[.int .u64 x0,.slice none 0 0,.bool false]) rfl⟩
 have n33_ : Aside0 ((w9.setCell ⟨g9,0,none⟩ (.int .u64 x0)).heap[g3]? = some (.cells #[.int .u64 a0_0,.slice A0_1 l0_1.length c0_1,.slice (some ad) l0_2.length c0_2,.slice A0_3 l0_3.length c0_3,.bool a0_4,.bool a0_5,.bool a0_6] 27 (0,0))):=⟨blk_far (p:=⟨g9,0,none⟩) (BK_g3.out) NB_g3_g9 (.int .u64 x0)⟩
 have n34_ : Aside0 ((w9.setCell ⟨g9,0,none⟩ (.int .u64 x0)).heap[g6]? = some (.cells #[.int .u64 0,.slice none 0 0,.slice none 0 0,.slice none 0 0,.bool false,.bool false,.bool false] 27 (0,0))):=⟨blk_far (p:=⟨g9,0,none⟩) (BK_g6.out) NB_g6_g9 (.int .u64 x0)⟩
 have n35_ : Aside0 ((w9.setCell ⟨g9,0,none⟩ (.int .u64 x0)).heap[g7]? = some (.cells #[.int .u64 0,.slice none 0 0,.bool false] 32 (0,0))):=⟨blk_far (p:=⟨g9,0,none⟩) (BK_g7.out) NB_g7_g9 (.int .u64 x0)⟩
 have n36_ : Aside0 ((w9.setCell ⟨g9,0,none⟩ (.int .u64 x0)).heap[g10]? = some (.cells #[.int .u64 e] 24 (0,0))):=⟨blk_far (p:=⟨g9,0,none⟩) (BK_g10.out) NB_g10_g9 (.int .u64 x0)⟩
 have n37_ : Aside0 (Below w.heap.size w (w9.setCell ⟨g9,0,none⟩ (.int .u64 x0))):=⟨below_set (HB.out) GE_g9.out (j:=0) (v:=.int .u64 x0)⟩
 clear BK_g9 BK_g3 BK_g6 BK_g7 BK_g10 HB
 have BK_g9:=n32_
 have BK_g3:=n33_
 have BK_g6:=n34_
 have BK_g7:=n35_
 have BK_g10:=n36_
 have HB:=n37_
 clear n32_ n33_ n34_ n35_ n36_ n37_
 generalize (w9.setCell ⟨g9,0,none⟩ (.int .u64 x0)) = w11 at BK_g9 BK_g3 BK_g6 BK_g7 BK_g10 HB ⊢
 have n38_ : Aside0 ((w11.setCell ⟨g10,0,none⟩ (.int .u64 tq)).heap[g10]? = some (.cells #[.int .u64 tq] 24 (0,0))):=⟨blk_put (BK_g10.out) 0 (.int .u64 tq) (cs':=#[.int .u64 tq]) rfl⟩
 have n39_ : Aside0 ((w11.setCell ⟨g10,0,none⟩ (.int .u64 tq)).heap[g3]? = some (.cells #[.int .u64 a0_0,.slice A0_1 l0_1.length c0_1,.slice (some ad) l0_2.length c0_2,.slice A0_3 l0_3.length c0_3,.bool a0_4,.bool a0_5,.bool a0_6] 27 (0,0))):=⟨blk_far (p:=⟨g10,0,none⟩) (BK_g3.out) NB_g3_g10 (.int .u64 tq)⟩
 have n40_ : Aside0 ((w11.setCell ⟨g10,0,none⟩ (.int .u64 tq)).heap[g6]? = some (.cells #[.int .u64 0,.slice none 0 0,.slice none 0 0,.slice none 0 0,.bool false,.bool false,.bool false] 27 (0,0))):=⟨blk_far (p:=⟨g10,0,none⟩) (BK_g6.out) NB_g6_g10 (.int .u64 tq)⟩
 have n41_ : Aside0 ((w11.setCell ⟨g10,0,none⟩ (.int .u64 tq)).heap[g7]? = some (.cells #[.int .u64 0,.slice none 0 0,.bool false] 32 (0,0))):=⟨blk_far (p:=⟨g10,0,none⟩) (BK_g7.out) NB_g7_g10 (.int .u64 tq)⟩
 have n42_ : Aside0 ((w11.setCell ⟨g10,0,none⟩ (.int .u64 tq)).heap[g9]? = some (.cells #[.int .u64 x0,.slice none 0 0,.bool false] 32 (0,0))):=⟨blk_far (p:=⟨g10,0,none⟩) (BK_g9.out) NB_g9_g10 (.int .u64 tq)⟩
 have n43_ : Aside0 (Below w.heap.size w (w11.setCell ⟨g10,0,none⟩ (.int .u64 tq))):=⟨below_set (HB.out) GE_g10.out (j:=0) (v:=.int .u64 tq)⟩
 clear BK_g10 BK_g3 BK_g6 BK_g7 BK_g9 HB
 have BK_g10:=n38_
 have BK_g3:=n39_
 have BK_g6:=n40_
 have BK_g7:=n41_
 have BK_g9:=n42_
 have HB:=n43_
 clear n38_ n39_ n40_ n41_ n42_ n43_
 generalize (w11.setCell ⟨g10,0,none⟩ (.int .u64 tq)) = w12 at BK_g10 BK_g3 BK_g6 BK_g7 BK_g9 HB ⊢
 have n44_:=Aside0.mk (below_drew1 HB.out)
 have n45_:=Aside0.mk (blk_drew BK_g3.out)
 have n46_:=Aside0.mk (blk_drew BK_g6.out)
 have n47_:=Aside0.mk (blk_drew BK_g7.out)
 have n48_:=Aside0.mk (blk_drew BK_g9.out)
 have n49_:=Aside0.mk (blk_drew BK_g10.out)
 clear HB BK_g3 BK_g6 BK_g7 BK_g9 BK_g10
 have HB:=n44_
 have BK_g3:=n45_
 have BK_g6:=n46_
 have BK_g7:=n47_
 have BK_g9:=n48_
 have BK_g10:=n49_
 clear n44_ n45_ n46_ n47_ n48_ n49_
 generalize w12.drew = w12b at HB BK_g3 BK_g6 BK_g7 BK_g9 BK_g10 ⊢
 obtain ⟨hx_g3_0,hf_g3_0,hx_g3_1,hf_g3_1,hx_g3_2,hf_g3_2,hx_g3_3,hf_g3_3,hx_g3_4,hf_g3_4,hx_g3_5,hf_g3_5,hx_g3_6,hf_g3_6⟩:=cells7 BK_g3.out
 obtain ⟨hx_g9_0,hf_g9_0,hx_g9_1,hf_g9_1,hx_g9_2,hf_g9_2⟩:=cells3 BK_g9.out
 obtain ⟨hx_g10_0,hf_g10_0⟩:=cells1 BK_g10.out
 by_cases k6 : a1 ≤ 0
 ·have kb : decide (a1 ≤ 0) = true:=decide_eq_true k6
  obtain ⟨hx_g6_0,hf_g6_0,hx_g6_1,hf_g6_1,hx_g6_2,hf_g6_2,hx_g6_3,hf_g6_3,hx_g6_4,hf_g6_4,hx_g6_5,hf_g6_5,hx_g6_6,hf_g6_6⟩:=cells7 BK_g6.out
  obtain ⟨hx_g7_0,hf_g7_0,hx_g7_1,hf_g7_1,hx_g7_2,hf_g7_2⟩:=cells3 BK_g7.out
  go_wp2
  refine bodyPost_ret (results_list (rs:=[.cell 6 27,.cell 7 32,.tmp 8]) rfl (by simp) (.cell g6 27 #[.int .u64 a0_0,.slice A0_1 l0_1.length c0_1,.slice (some ad) l0_2.length c0_2,.slice A0_3 l0_3.length c0_3,.bool a0_4,.bool a0_5,.bool a0_6] (0,0) _ rfl (blk_far (p:=⟨g7,2,none⟩) (blk_far (p:=⟨g7,1,none⟩) (blk_far (p:=⟨g7,0,none⟩) (blk_put7 BK_g6.out) NB_g6_g7 (.int .u64 0)) NB_g6_g7 (.slice none 0 0)) NB_g6_g7 (.bool false)) Try.underlying27 rfl (by kernel_rfl) (.cell g7 32 #[.int .u64 0,.slice none 0 0,.bool false] (0,0) _ rfl (blk_put (cs':=#[.int .u64 0,.slice none 0 0,.bool false]) (blk_put (cs':=#[.int .u64 0,.slice none 0 0,.bool false]) (blk_put (cs':=#[.int .u64 0,.slice none 0 0,.bool false]) (blk_far7 BK_g7.out NB_g7_g6) 0 (.int .u64 0) rfl) 1 (.slice none 0 0) rfl) 2 (.bool false) rfl) Try.underlying32 rfl (by kernel_rfl) (.tmp .nil)))) rfl ?_
  exact ⟨rfl,below_set (below_set (below_set (below_set7 HB.out GE_g6.out) GE_g7.out (j:=0) (v:=.int .u64 0)) GE_g7.out (j:=1) (v:=.slice none 0 0)) GE_g7.out (j:=2) (v:=.bool false)⟩
 ·have kb : decide (a1 ≤ 0) = false:=decide_eq_false k6
  have kc : decide (tq ≤ x0) = true:=decide_eq_true (H6.out.resolve_left k6)
  obtain ⟨hx_g6_0,hf_g6_0,hx_g6_1,hf_g6_1,hx_g6_2,hf_g6_2,hx_g6_3,hf_g6_3,hx_g6_4,hf_g6_4,hx_g6_5,hf_g6_5,hx_g6_6,hf_g6_6⟩:=cells7 BK_g6.out
  obtain ⟨hx_g7_0,hf_g7_0,hx_g7_1,hf_g7_1,hx_g7_2,hf_g7_2⟩:=cells3 BK_g7.out
  go_wp2
  refine bodyPost_ret (results_list (rs:=[.cell 6 27,.cell 7 32,.tmp 8]) rfl (by simp) (.cell g6 27 #[.int .u64 a0_0,.slice A0_1 l0_1.length c0_1,.slice (some ad) l0_2.length c0_2,.slice A0_3 l0_3.length c0_3,.bool a0_4,.bool a0_5,.bool a0_6] (0,0) _ rfl (blk_far (p:=⟨g7,2,none⟩) (blk_far (p:=⟨g7,1,none⟩) (blk_far (p:=⟨g7,0,none⟩) (blk_put7 BK_g6.out) NB_g6_g7 (.int .u64 0)) NB_g6_g7 (.slice none 0 0)) NB_g6_g7 (.bool false)) Try.underlying27 rfl (by kernel_rfl) (.cell g7 32 #[.int .u64 0,.slice none 0 0,.bool false] (0,0) _ rfl (blk_put (cs':=#[.int .u64 0,.slice none 0 0,.bool false]) (blk_put (cs':=#[.int .u64 0,.slice none 0 0,.bool false]) (blk_put (cs':=#[.int .u64 0,.slice none 0 0,.bool false]) (blk_far7 BK_g7.out NB_g7_g6) 0 (.int .u64 0) rfl) 1 (.slice none 0 0) rfl) 2 (.bool false) rfl) Try.underlying32 rfl (by kernel_rfl) (.tmp .nil)))) rfl ?_
  exact ⟨rfl,below_set (below_set (below_set (below_set7 HB.out GE_g6.out) GE_g7.out (j:=0) (v:=.int .u64 0)) GE_g7.out (j:=1) (v:=.slice none 0 0)) GE_g7.out (j:=2) (v:=.bool false)⟩
set_option maxHeartbeats 8000000 in
set_option maxRecDepth 100000 in
theorem supply_Next.end (a0_0 : Int) (A0_1 : Option Addr) (c0_1 : Nat) (l0_1 : List Int) (A0_2 : Option Addr) (c0_2 : Nat) (l0_2 : List S37) (A0_3 : Option Addr) (c0_3 : Nat) (l0_3 : List S37) (a0_4 : Bool) (a0_5 : Bool) (a0_6 : Bool) (a1 : Int) (a2 : Int) (off tz : Int) (p q : Nat) (cf : Bool) (t2 : List S37) (y : List Int) (w : World)
  (hr0_1 : Kd.C (Kd.int .u8) w A0_1 l0_1.length l0_1) (hc0_1 : l0_1.length ≤ c0_1) (hr0_2 : Kd.C k37 w A0_2 l0_2.length l0_2) (hc0_2 : l0_2.length ≤ c0_2) (hr0_3 : Kd.C k37 w A0_3 l0_3.length l0_3) (hc0_3 : l0_3.length ≤ c0_3) (hL : l0_1.length < 1000000000 ∧ l0_2.length < 1000000000 ∧ l0_3.length < 1000000000 ∧ 0 ≤ a0_0 ∧ a0_0 + (l0_1.length : Int) ≤ 4611686018427387904) (h5 : a0_5 = true) (h2 : l0_2.length = 0) (ho : off = a0_0 + (l0_1.length : Int)) (hz : tz = a0_0 + (l0_1.length : Int)) (hy : y = (l0_1.take q).drop p) (hT : span_Cut.f l0_2 off tz = some t2) (hp : off - a0_0 = (p : Int)) (hq : tz - a0_0 = (q : Int)) (hpq : p ≤ q) (hqd : q ≤ l0_1.length) (hcf : cf = (a0_5 && (tz == a0_0 + (l0_1.length : Int)))) :
  Calls Try.prog 10 #[.agg #[.int .u64 a0_0,.slice A0_1 l0_1.length c0_1,.slice A0_2 l0_2.length c0_2,.slice A0_3 l0_3.length c0_3,.bool a0_4,.bool a0_5,.bool a0_6],.int .i64 a1,.int .u64 a2] w fun e w' => ∃ v1_ v2_ v3_ v8_ : Value,e = .returned (.tuple #[.agg #[.int .u64 a0_0,v1_,v2_,v3_,.bool a0_4,.bool (a0_5 && !cf),.bool a0_6],.agg #[.int .u64 off,v8_,.bool cf],.bool true]) ∧ Kd.R (Kd.int .u8) 5 w' w.heap.size (fun k_ => some k_ ≠ (v8_ : Value).ownBlock) v1_ l0_1 ∧ Kd.R k37 37 w' w.heap.size (fun k_ => some k_ ≠ (v8_ : Value).ownBlock) v2_ t2 ∧ Kd.R k37 37 w' w.heap.size (fun k_ => some k_ ≠ (v8_ : Value).ownBlock) v3_ l0_3 ∧ Kd.R (Kd.int .u8) 5 w' w.heap.size (fun _ => True) v8_ y ∧ Below w.heap.size w w':=by
 subst h5
 have HR1:=Aside0.mk hr0_1
 have HC1:=Aside0.mk hc0_1
 have HR2:=Aside0.mk hr0_2
 have HC2:=Aside0.mk hc0_2
 have HR3:=Aside0.mk hr0_3
 have HC3:=Aside0.mk hc0_3
 have HB:=Aside0.mk (Below.refl w.heap.size w)
 clear hr0_1 hc0_1 hr0_2 hc0_2 hr0_3 hc0_3
 obtain ⟨e,he⟩ : ∃ e : Int,e = a0_0 + (l0_1.length : Int):=⟨_,rfl⟩
 have HL:=Aside0.mk hL
 have HE:=Aside0.mk he
 have HV : Aside0 (IntKind.u64.wrap (a0_0 + IntKind.u64.wrap (l0_1.length : Int)) = e):=⟨by rw [IntKind.wrap_u64,IntKind.wrap_u64];omega⟩
 have hqp : p = q:=by omega
 subst hqp
 have HCD0:=Kd.C_mid (hi:=p) (lo:=p) HR1.out hpq hqd HC1.out
 have hyl : y.length = p - p:=by rw [hy,List.length_drop,List.length_take];omega
 obtain ⟨Ad,hAd⟩ : ∃ A_ : Option Addr,(if p = p then A0_1 else A0_1.map (·.add (p * 1))) = A_:=⟨_,rfl⟩
 have HCD : Aside0 (Kd.C (Kd.int .u8) w Ad y.length y):=⟨by
  by_cases qp : p = p
  ·have : y = []:=List.eq_nil_of_length_eq_zero (by omega)
   rw [this]
   exact ⟨rfl,by simp,fun h => absurd h (Nat.lt_irrefl 0)⟩
  ·rw [← hAd,if_neg qp,hy]
   rw [if_neg (by have:=HC1.out;omega)] at HCD0
   exact HCD0⟩
 have HYL:=Aside0.mk hyl
 have HPQ:=Aside0.mk (show p ≤ l0_1.length from hqd)
 obtain ⟨i_,hi_,_,hsz_,_⟩:=info_parts info5
 have hel : Try.prog.elem 22 = 5:=by simp [Program.elem,Try.underlying22]
 have hu : Try.prog.underlying 22 = some (.slice (Try.prog.elem 22)):=by rw [hel];exact Try.underlying22
 have hcut : ∀ W : World,(Instr.slice 22 (.slice A0_1 l0_1.length c0_1) (some (.int .u64 (p : Int))) (some (.int .u64 (p : Int))) (some (.int .u64 (p : Int)))).run Try.prog W = .ok (.slice Ad y.length (p - p)) W:=by
  intro W
  rw [run_slice_lhm W 22 A0_1 l0_1.length c0_1 hu .u64 .u64 .u64 (p : Int) (p : Int) (p : Int) (by omega) (by omega) (by omega) (by have:=HC1.out;omega),hel,← hAd,hyl]
  simp [sizeOf,typeInfo,hi_,hsz_,sliced,Result.andThen]
 have hw1 : IntKind.u64.wrap (off - a0_0) = (p : Int):=by rw [IntKind.wrap_u64];omega
 have hw2 : IntKind.u64.wrap (tz - a0_0) = (p : Int):=by rw [IntKind.wrap_u64];omega
 have HT:=Aside0.mk hT
 clear HCD0 hyl hAd hi_ hsz_ hel hu hp hq hpq hqd hT
 rw [← he] at hcf
 have hcf_ : (tz == e) = cf:=by rw [hcf];simp
 clear hcf
 have HY:=Aside0.mk hy
 clear hy
 rw [← he] at ho hz
 have ho_:=ho.symm
 subst ho_
 have hz_:=hz.symm
 subst hz_
 have hcg : cf = true:=by rw [← hcf_];simp
 subst hcg
 clear hcf_ ho hz
 generalize hf5 : (true && !true) = f5
 have HF5:=Aside0.mk hf5
 clear hf5
 have k0 : ((l0_2.length : Int) == 0) = true:=beq_iff_eq.mpr (by omega)
 have k1 : (l0_2.length == 0) = true:=beq_iff_eq.mpr h2
 have k2 : decide ((l0_2.length : Int) > 0) = false:=decide_eq_false (by omega)
 have k3 : decide ((0 : Int) < (l0_2.length : Int)) = false:=decide_eq_false (by omega)
 have k4 : decide (0 < l0_2.length) = false:=decide_eq_false (by omega)
 clear h2
 clear hL he
 go_enter Try.func10,Try.ntmps10
 go_upto_region 2 with (first
  | ((with_reducible refine gate_dst (N:=3) rfl ?_);refine box_event ?hg (N:=3) ?hd (cs:=#[.int .u64 a0_0,.slice A0_1 l0_1.length c0_1,.slice A0_2 l0_2.length c0_2,.slice A0_3 l0_3.length c0_3,.bool a0_4,.bool true,.bool a0_6]) (t:=27) ?hr ?_;(case hd => rfl);(case hg => rfl);(case hr => first | (go_simp;done) | (go_simp;rfl));intro g3 hg w2 hbox hb;have GE_g3:=Aside0.mk (show w.heap.size ≤ g3 by rw [hg];exact HB.out.size);have n1_:=Aside0.mk (below_step HB.out hb);clear HB;have HB:=n1_;clear n1_;have BK_g3:=Aside0.mk hbox;clear hbox hb hg)
  | ((with_reducible refine gate_dst (N:=6) rfl ?_);refine box_event ?hg (N:=6) ?hd (cs:=#[.int .u64 0,.slice none 0 0,.slice none 0 0,.slice none 0 0,.bool false,.bool false,.bool false]) (t:=27) ?hr ?_;(case hd => rfl);(case hg => rfl);(case hr => first | (go_simp;done) | (go_simp;rfl));intro g6 hg w3 hbox hb;have GE_g6:=Aside0.mk (show w.heap.size ≤ g6 by rw [hg];exact HB.out.size);have NB_g3_g6 : g3 ≠ g6:=(by rw [hg];exact Nat.ne_of_lt (blk_lt BK_g3.out));have NB_g6_g3:=NB_g3_g6.symm;have n2_:=Aside0.mk (below_step HB.out hb);have n3_:=Aside0.mk (blk_below BK_g3.out hb);clear HB BK_g3;have HB:=n2_;have BK_g3:=n3_;clear n2_ n3_;have BK_g6:=Aside0.mk hbox;clear hbox hb hg)
  | ((with_reducible refine gate_dst (N:=7) rfl ?_);refine box_event ?hg (N:=7) ?hd (cs:=#[.int .u64 0,.slice none 0 0,.bool false]) (t:=32) ?hr ?_;(case hd => rfl);(case hg => rfl);(case hr => first | (go_simp;done) | (go_simp;rfl));intro g7 hg w4 hbox hb;have GE_g7:=Aside0.mk (show w.heap.size ≤ g7 by rw [hg];exact HB.out.size);have NB_g3_g7 : g3 ≠ g7:=(by rw [hg];exact Nat.ne_of_lt (blk_lt BK_g3.out));have NB_g7_g3:=NB_g3_g7.symm;have NB_g6_g7 : g6 ≠ g7:=(by rw [hg];exact Nat.ne_of_lt (blk_lt BK_g6.out));have NB_g7_g6:=NB_g6_g7.symm;have n4_:=Aside0.mk (below_step HB.out hb);have n5_:=Aside0.mk (blk_below BK_g3.out hb);have n6_:=Aside0.mk (blk_below BK_g6.out hb);clear HB BK_g3 BK_g6;have HB:=n4_;have BK_g3:=n5_;have BK_g6:=n6_;clear n4_ n5_ n6_;have BK_g7:=Aside0.mk hbox;clear hbox hb hg;obtain ⟨hx_g3_0,hf_g3_0,hx_g3_1,hf_g3_1,hx_g3_2,hf_g3_2,hx_g3_3,hf_g3_3,hx_g3_4,hf_g3_4,hx_g3_5,hf_g3_5,hx_g3_6,hf_g3_6⟩:=cells7 BK_g3.out)
  | ((with_reducible refine gate_callee (f:=15) rfl ?_);refine goesL_ (some 12) rfl rfl Try.func15 (by kernel_rfl) rfl #[.agg #[.int .u64 a0_0,.slice A0_1 l0_1.length c0_1,.slice A0_2 l0_2.length c0_2,.slice A0_3 l0_3.length c0_3,.bool a0_4,.bool true,.bool a0_6]] rfl (by (try simp only [List.map_toArray,List.map_cons,List.map_nil]);first | done | rfl) ?_;refine (supply_End.calls a0_0 _ _ l0_1 _ _ l0_2 _ _ l0_3 a0_4 true a0_6 e _ (Kd.C_below HR1.out HB.out) HC1.out (Kd.C_below HR2.out HB.out) HC2.out (Kd.C_below HR3.out HB.out) HC3.out (by unfold supply_End.f;rw [HV.out])).mono ?_;rintro e_ w5 ⟨rfl,hb⟩;refine ⟨_,rfl,?_⟩;clear hx_g3_0 hf_g3_0 hx_g3_1 hf_g3_1 hx_g3_2 hf_g3_2 hx_g3_3 hf_g3_3 hx_g3_4 hf_g3_4 hx_g3_5 hf_g3_5 hx_g3_6 hf_g3_6;have n7_:=Aside0.mk (below_step HB.out hb);have n8_:=Aside0.mk (blk_below BK_g3.out hb);have n9_:=Aside0.mk (blk_below BK_g6.out hb);have n10_:=Aside0.mk (blk_below BK_g7.out hb);clear HB BK_g3 BK_g6 BK_g7;have HB:=n7_;have BK_g3:=n8_;have BK_g6:=n9_;have BK_g7:=n10_;clear n7_ n8_ n9_ n10_;clear hb)
  | ((with_reducible refine gate_dst (N:=9) rfl ?_);refine box_event ?hg (N:=9) ?hd (cs:=#[.int .u64 0,.slice none 0 0,.bool false]) (t:=32) ?hr ?_;(case hd => rfl);(case hg => rfl);(case hr => first | (go_simp;done) | (go_simp;rfl));intro g9 hg w6 hbox hb;have GE_g9:=Aside0.mk (show w.heap.size ≤ g9 by rw [hg];exact HB.out.size);have NB_g3_g9 : g3 ≠ g9:=(by rw [hg];exact Nat.ne_of_lt (blk_lt BK_g3.out));have NB_g9_g3:=NB_g3_g9.symm;have NB_g6_g9 : g6 ≠ g9:=(by rw [hg];exact Nat.ne_of_lt (blk_lt BK_g6.out));have NB_g9_g6:=NB_g6_g9.symm;have NB_g7_g9 : g7 ≠ g9:=(by rw [hg];exact Nat.ne_of_lt (blk_lt BK_g7.out));have NB_g9_g7:=NB_g7_g9.symm;have n11_:=Aside0.mk (below_step HB.out hb);have n12_:=Aside0.mk (blk_below BK_g3.out hb);have n13_:=Aside0.mk (blk_below BK_g6.out hb);have n14_:=Aside0.mk (blk_below BK_g7.out hb);clear HB BK_g3 BK_g6 BK_g7;have HB:=n11_;have BK_g3:=n12_;have BK_g6:=n13_;have BK_g7:=n14_;clear n11_ n12_ n13_ n14_;have BK_g9:=Aside0.mk hbox;clear hbox hb hg;obtain ⟨hx_g9_0,hf_g9_0,hx_g9_1,hf_g9_1,hx_g9_2,hf_g9_2⟩:=cells3 BK_g9.out))
 clear hx_g9_0 hf_g9_0 hx_g9_1 hf_g9_1 hx_g9_2 hf_g9_2
 obtain ⟨w7,hw15_⟩ : ∃ w_ : World,set3 w6 g9 (.int .u64 e) (.slice none 0 0) (.bool false) = w_:=⟨_,rfl⟩
 have n16_:=Aside0.mk (blk3 hw15_ BK_g9.out)
 have n17_:=Aside0.mk (far3 hw15_ NB_g3_g9 BK_g3.out)
 have n18_:=Aside0.mk (far3 hw15_ NB_g6_g9 BK_g6.out)
 have n19_:=Aside0.mk (far3 hw15_ NB_g7_g9 BK_g7.out)
 have n20_:=Aside0.mk (below3 hw15_ GE_g9.out HB.out)
 rw [set3_fold,hw15_]
 clear hw15_ BK_g9 BK_g3 BK_g6 BK_g7 HB
 have BK_g9:=n16_
 have BK_g3:=n17_
 have BK_g6:=n18_
 have BK_g7:=n19_
 have HB:=n20_
 clear n16_ n17_ n18_ n19_ n20_
 obtain ⟨hx_g9_0,hf_g9_0,hx_g9_1,hf_g9_1,hx_g9_2,hf_g9_2⟩:=cells3 BK_g9.out
 go_upto_block 0 with (first
  | ((with_reducible refine gate_dst (N:=10) rfl ?_);refine box_event ?hg (N:=10) ?hd (cs:=#[.int .u64 0]) (t:=24) ?hr ?_;(case hd => rfl);(case hg => rfl);(case hr => first | (go_simp;done) | (go_simp;rfl));intro g10 hg w8 hbox hb;have GE_g10:=Aside0.mk (show w.heap.size ≤ g10 by rw [hg];exact HB.out.size);have NB_g3_g10 : g3 ≠ g10:=(by rw [hg];exact Nat.ne_of_lt (blk_lt BK_g3.out));have NB_g10_g3:=NB_g3_g10.symm;have NB_g6_g10 : g6 ≠ g10:=(by rw [hg];exact Nat.ne_of_lt (blk_lt BK_g6.out));have NB_g10_g6:=NB_g6_g10.symm;have NB_g7_g10 : g7 ≠ g10:=(by rw [hg];exact Nat.ne_of_lt (blk_lt BK_g7.out));have NB_g10_g7:=NB_g7_g10.symm;have NB_g9_g10 : g9 ≠ g10:=(by rw [hg];exact Nat.ne_of_lt (blk_lt BK_g9.out));have NB_g10_g9:=NB_g9_g10.symm;clear hx_g9_0 hf_g9_0 hx_g9_1 hf_g9_1 hx_g9_2 hf_g9_2;have n21_:=Aside0.mk (below_step HB.out hb);have n22_:=Aside0.mk (blk_below BK_g3.out hb);have n23_:=Aside0.mk (blk_below BK_g6.out hb);have n24_:=Aside0.mk (blk_below BK_g7.out hb);have n25_:=Aside0.mk (blk_below BK_g9.out hb);clear HB BK_g3 BK_g6 BK_g7 BK_g9;have HB:=n21_;have BK_g3:=n22_;have BK_g6:=n23_;have BK_g7:=n24_;have BK_g9:=n25_;clear n21_ n22_ n23_ n24_ n25_;have BK_g10:=Aside0.mk hbox;clear hbox hb hg;obtain ⟨hx_g10_0,hf_g10_0⟩:=cells1 BK_g10.out))
 clear hx_g10_0 hf_g10_0
 have n26_ : Aside0 ((w8.setCell ⟨g10,0,none⟩ (.int .u64 e)).heap[g10]? = some (.cells #[.int .u64 e] 24 (0,0))):=⟨blk_put (BK_g10.out) 0 (.int .u64 e) (cs':=#[.int .u64 e]) rfl⟩
 have n27_ : Aside0 ((w8.setCell ⟨g10,0,none⟩ (.int .u64 e)).heap[g3]? = some (.cells #[.int .u64 a0_0,.slice A0_1 l0_1.length c0_1,.slice A0_2 l0_2.length c0_2,.slice A0_3 l0_3.length c0_3,.bool a0_4,.bool true,.bool a0_6] 27 (0,0))):=⟨blk_far (p:=⟨g10,0,none⟩) (BK_g3.out) NB_g3_g10 (.int .u64 e)⟩
 have n28_ : Aside0 ((w8.setCell ⟨g10,0,none⟩ (.int .u64 e)).heap[g6]? = some (.cells #[.int .u64 0,.slice none 0 0,.slice none 0 0,.slice none 0 0,.bool false,.bool false,.bool false] 27 (0,0))):=⟨blk_far (p:=⟨g10,0,none⟩) (BK_g6.out) NB_g6_g10 (.int .u64 e)⟩
 have n29_ : Aside0 ((w8.setCell ⟨g10,0,none⟩ (.int .u64 e)).heap[g7]? = some (.cells #[.int .u64 0,.slice none 0 0,.bool false] 32 (0,0))):=⟨blk_far (p:=⟨g10,0,none⟩) (BK_g7.out) NB_g7_g10 (.int .u64 e)⟩
 have n30_ : Aside0 ((w8.setCell ⟨g10,0,none⟩ (.int .u64 e)).heap[g9]? = some (.cells #[.int .u64 e,.slice none 0 0,.bool false] 32 (0,0))):=⟨blk_far (p:=⟨g10,0,none⟩) (BK_g9.out) NB_g9_g10 (.int .u64 e)⟩
 have n31_ : Aside0 (Below w.heap.size w (w8.setCell ⟨g10,0,none⟩ (.int .u64 e))):=⟨below_set (HB.out) GE_g10.out (j:=0) (v:=.int .u64 e)⟩
 clear BK_g10 BK_g3 BK_g6 BK_g7 BK_g9 HB
 have BK_g10:=n26_
 have BK_g3:=n27_
 have BK_g6:=n28_
 have BK_g7:=n29_
 have BK_g9:=n30_
 have HB:=n31_
 clear n26_ n27_ n28_ n29_ n30_ n31_
 generalize (w8.setCell ⟨g10,0,none⟩ (.int .u64 e)) = w9 at BK_g10 BK_g3 BK_g6 BK_g7 BK_g9 HB ⊢
 obtain ⟨hx_g3_0,hf_g3_0,hx_g3_1,hf_g3_1,hx_g3_2,hf_g3_2,hx_g3_3,hf_g3_3,hx_g3_4,hf_g3_4,hx_g3_5,hf_g3_5,hx_g3_6,hf_g3_6⟩:=cells7 BK_g3.out
 obtain ⟨hx_g9_0,hf_g9_0,hx_g9_1,hf_g9_1,hx_g9_2,hf_g9_2⟩:=cells3 BK_g9.out
 obtain ⟨hx_g10_0,hf_g10_0⟩:=cells1 BK_g10.out
 go_upto_region 10 with fail
 go_upto_region 11 with (first
  | ((with_reducible refine gate_callee (f:=22) rfl ?_);refine goesL_ (some 79) rfl rfl Try.func22 (by kernel_rfl) rfl #[.slice Ad y.length 0] rfl (by (try simp only [List.map_toArray,List.map_cons,List.map_nil]);first | done | rfl) ?_;refine (bytes_Clone.calls Ad 0 y y _ (Kd.C_below HCD.out HB.out) (by have h_:=HYL.out;omega) (clone_ok_by (by have h_:=HYL.out;have h2_:=HL.out;have h3_:=HPQ.out;omega))).mono ?_;rintro e_ w20 ⟨u_,rfl,ho,hb⟩;refine ⟨_,rfl,?_⟩;have O_cd:=Aside0.mk (Kd.R_lower ho HB.out.size);clear ho;clear hx_g3_0 hf_g3_0 hx_g3_1 hf_g3_1 hx_g3_2 hf_g3_2 hx_g3_3 hf_g3_3 hx_g3_4 hf_g3_4 hx_g3_5 hf_g3_5 hx_g3_6 hf_g3_6 hx_g9_0 hf_g9_0 hx_g9_1 hf_g9_1 hx_g9_2 hf_g9_2 hx_g10_0 hf_g10_0;have n32_:=Aside0.mk (below_step HB.out hb);have n33_:=Aside0.mk (blk_below BK_g3.out hb);have n34_:=Aside0.mk (blk_below BK_g6.out hb);have n35_:=Aside0.mk (blk_below BK_g7.out hb);have n36_:=Aside0.mk (blk_below BK_g9.out hb);have n37_:=Aside0.mk (blk_below BK_g10.out hb);clear HB BK_g3 BK_g6 BK_g7 BK_g9 BK_g10;have HB:=n32_;have BK_g3:=n33_;have BK_g6:=n34_;have BK_g7:=n35_;have BK_g9:=n36_;have BK_g10:=n37_;clear n32_ n33_ n34_ n35_ n36_ n37_;clear hb;obtain ⟨Dy,qy,eo⟩:=Kd.R_slice O_cd.out;subst eo;obtain ⟨hx_g9_0,hf_g9_0,hx_g9_1,hf_g9_1,hx_g9_2,hf_g9_2⟩:=cells3 BK_g9.out;obtain ⟨hx_g3_0,hf_g3_0,hx_g3_1,hf_g3_1,hx_g3_2,hf_g3_2,hx_g3_3,hf_g3_3,hx_g3_4,hf_g3_4,hx_g3_5,hf_g3_5,hx_g3_6,hf_g3_6⟩:=cells7 BK_g3.out;obtain ⟨hx_g10_0,hf_g10_0⟩:=cells1 BK_g10.out))
 clear hx_g9_0 hf_g9_0 hx_g9_1 hf_g9_1 hx_g9_2 hf_g9_2 hx_g3_0 hf_g3_0 hx_g3_1 hf_g3_1 hx_g3_2 hf_g3_2 hx_g3_3 hf_g3_3 hx_g3_4 hf_g3_4 hx_g3_5 hf_g3_5 hx_g3_6 hf_g3_6 hx_g10_0 hf_g10_0
 have n38_ : Aside0 ((w20.setCell ⟨g9,1,none⟩ (.slice Dy y.length qy)).heap[g9]? = some (.cells #[.int .u64 e,.slice Dy y.length qy,.bool false] 32 (0,0))):=⟨blk_put (BK_g9.out) 1 (.slice Dy y.length qy) (cs':=#[.int .u64 e,.slice Dy y.length qy,.bool false]) rfl⟩
 have n39_ : Aside0 ((w20.setCell ⟨g9,1,none⟩ (.slice Dy y.length qy)).heap[g3]? = some (.cells #[.int .u64 a0_0,.slice A0_1 l0_1.length c0_1,.slice A0_2 l0_2.length c0_2,.slice A0_3 l0_3.length c0_3,.bool a0_4,.bool true,.bool a0_6] 27 (0,0))):=⟨blk_far (p:=⟨g9,1,none⟩) (BK_g3.out) NB_g3_g9 (.slice Dy y.length qy)⟩
 have n40_ : Aside0 ((w20.setCell ⟨g9,1,none⟩ (.slice Dy y.length qy)).heap[g6]? = some (.cells #[.int .u64 0,.slice none 0 0,.slice none 0 0,.slice none 0 0,.bool false,.bool false,.bool false] 27 (0,0))):=⟨blk_far (p:=⟨g9,1,none⟩) (BK_g6.out) NB_g6_g9 (.slice Dy y.length qy)⟩
 have n41_ : Aside0 ((w20.setCell ⟨g9,1,none⟩ (.slice Dy y.length qy)).heap[g7]? = some (.cells #[.int .u64 0,.slice none 0 0,.bool false] 32 (0,0))):=⟨blk_far (p:=⟨g9,1,none⟩) (BK_g7.out) NB_g7_g9 (.slice Dy y.length qy)⟩
 have n42_ : Aside0 ((w20.setCell ⟨g9,1,none⟩ (.slice Dy y.length qy)).heap[g10]? = some (.cells #[.int .u64 e] 24 (0,0))):=⟨blk_far (p:=⟨g9,1,none⟩) (BK_g10.out) NB_g10_g9 (.slice Dy y.length qy)⟩
 have n43_ : Aside0 (Kd.R (Kd.int .u8) 5 (w20.setCell ⟨g9,1,none⟩ (.slice Dy y.length qy)) w.heap.size (fun _ => True) (.slice Dy y.length qy) (y)):=⟨Kd.R_mono (Kd.R_far (p:=⟨g9,1,none⟩) (Kd.R_types O_cd.out BK_g9.out (ne_of rfl (by decide))) (fun _ hk => hk.2) (.slice Dy y.length qy)) (fun _ _ => trivial)⟩
 have n44_ : Aside0 (Below w.heap.size w (w20.setCell ⟨g9,1,none⟩ (.slice Dy y.length qy))):=⟨below_set (HB.out) GE_g9.out (j:=1) (v:=.slice Dy y.length qy)⟩
 clear BK_g9 BK_g3 BK_g6 BK_g7 BK_g10 O_cd HB
 have BK_g9:=n38_
 have BK_g3:=n39_
 have BK_g6:=n40_
 have BK_g7:=n41_
 have BK_g10:=n42_
 have O_cd:=n43_
 have HB:=n44_
 clear n38_ n39_ n40_ n41_ n42_ n43_ n44_
 generalize (w20.setCell ⟨g9,1,none⟩ (.slice Dy y.length qy)) = w21 at BK_g9 BK_g3 BK_g6 BK_g7 BK_g10 O_cd HB ⊢
 have n45_:=Aside0.mk (below_drew1 HB.out)
 have n46_:=Aside0.mk (blk_drew BK_g3.out)
 have n47_:=Aside0.mk (blk_drew BK_g6.out)
 have n48_:=Aside0.mk (blk_drew BK_g7.out)
 have n49_:=Aside0.mk (blk_drew BK_g9.out)
 have n50_:=Aside0.mk (blk_drew BK_g10.out)
 have n51_:=Aside0.mk (Kd.R_drew O_cd.out)
 clear HB BK_g3 BK_g6 BK_g7 BK_g9 BK_g10 O_cd
 have HB:=n45_
 have BK_g3:=n46_
 have BK_g6:=n47_
 have BK_g7:=n48_
 have BK_g9:=n49_
 have BK_g10:=n50_
 have O_cd:=n51_
 clear n45_ n46_ n47_ n48_ n49_ n50_ n51_
 (try simp only [Act.put,List.setIfInBounds_toArray,List.set_cons_zero,List.set_cons_succ])
 refine start_ (n:=10) (S:=fun w' => w'.cell? ⟨g3,0,none⟩ = some (.int .u64 a0_0) ∧ w'.cell? ⟨g3,1,none⟩ = some (.slice A0_1 l0_1.length c0_1) ∧ w'.cell? ⟨g3,2,none⟩ = some (.slice A0_2 l0_2.length c0_2) ∧ w'.cell? ⟨g3,3,none⟩ = some (.slice A0_3 l0_3.length c0_3) ∧ w'.cell? ⟨g3,4,none⟩ = some (.bool a0_4) ∧ w'.cell? ⟨g3,5,none⟩ = some (.bool true) ∧ w'.cell? ⟨g3,6,none⟩ = some (.bool a0_6) ∧ w'.cell? ⟨g10,0,none⟩ = some (.int .u64 e)) (ds:=[9]) #[false,false,false,false,false,false,false,false,false,false] (by kernel_rfl) rfl rfl ⟨(blk_cell BK_g3.out 0).trans rfl,(blk_cell BK_g3.out 1).trans rfl,(blk_cell BK_g3.out 2).trans rfl,(blk_cell BK_g3.out 3).trans rfl,(blk_cell BK_g3.out 4).trans rfl,(blk_cell BK_g3.out 5).trans rfl,(blk_cell BK_g3.out 6).trans rfl,(blk_cell BK_g10.out 0).trans rfl⟩ (fun hHeld => ?_)
 generalize w21.drew = w22 at HB BK_g3 BK_g6 BK_g7 BK_g9 BK_g10 O_cd hHeld ⊢
 refine pure_ (i:=0) (N:=some 81) (v:=?_) (a':=?_) #[true,false,false,false,false,false,false,false,false,false] rfl rfl (by kernel_rfl) (fun _ _ _ h => h) (Or.inl ⟨by rfl,?_⟩) ?_ ?_
 rotate_left
 ·intro w'
  go_simp
  with_reducible rfl
 rotate_left
 ·simp only [Act.put,List.setIfInBounds_toArray,List.set_cons_zero,List.set_cons_succ,i64_w,i32_w]
  rfl
 refine take_ (i:=1) (N:=some 82) (v:=?_) (a':=?_) #[true,true,false,false,false,false,false,false,false,false] rfl rfl (by kernel_rfl) (fun _ _ _ h => h) (Or.inl ⟨by rfl,?_⟩) hHeld ?_ ?_
 rotate_left
 ·rintro w' ⟨s0,s1,s2,s3,s4,s5,s6,s7⟩
  go_simp
  with_reducible rfl
 rotate_left
 ·simp only [Act.put,List.setIfInBounds_toArray,List.set_cons_zero,List.set_cons_succ,i64_w,i32_w]
  rfl
 refine pure_ (i:=2) (N:=some 83) (v:=?_) (a':=?_) #[true,true,true,false,false,false,false,false,false,false] rfl rfl (by kernel_rfl) (fun _ _ _ h => h) (Or.inl ⟨by rfl,?_⟩) ?_ ?_
 rotate_left
 ·intro w'
  go_simp
  with_reducible rfl
 rotate_left
 ·simp only [Act.put,List.setIfInBounds_toArray,List.set_cons_zero,List.set_cons_succ,i64_w,i32_w]
  rfl
 refine take_ (i:=3) (N:=some 84) (v:=?_) (a':=?_) #[true,true,true,true,false,false,false,false,false,false] rfl rfl (by kernel_rfl) (fun _ _ _ h => h) (Or.inl ⟨by rfl,?_⟩) hHeld ?_ ?_
 rotate_left
 ·rintro w' ⟨s0,s1,s2,s3,s4,s5,s6,s7⟩
  go_simp
  with_reducible rfl
 rotate_left
 ·simp only [Act.put,List.setIfInBounds_toArray,List.set_cons_zero,List.set_cons_succ,i64_w,i32_w]
  rfl
 refine take_ (i:=4) (N:=some 85) (v:=?_) (a':=?_) #[true,true,true,true,true,false,false,false,false,false] rfl rfl (by kernel_rfl) (fun _ _ _ h => h) (Or.inl ⟨by rfl,?_⟩) hHeld ?_ ?_
 rotate_left
 ·rintro w' ⟨s0,s1,s2,s3,s4,s5,s6,s7⟩
  go_simp
  with_reducible rfl
 rotate_left
 ·simp only [Act.put,List.setIfInBounds_toArray,List.set_cons_zero,List.set_cons_succ,i64_w,i32_w]
  rfl
 refine one_ (i:=5) (N:=some 86) #[true,true,true,true,true,true,false,false,false,false] rfl rfl (by kernel_rfl) (by decide) (fun K hK => ?_)
 refine goes_ Try.func15 (by kernel_rfl) rfl #[.agg #[.int .u64 a0_0,.slice A0_1 l0_1.length c0_1,.slice A0_2 l0_2.length c0_2,.slice A0_3 l0_3.length c0_3,.bool a0_4,.bool true,.bool a0_6]] (by rfl) rfl rfl (by (try simp only [List.map_toArray,List.map_cons,List.map_nil]);first | done | rfl) ?_
 refine (supply_End.calls a0_0 _ _ l0_1 _ _ l0_2 _ _ l0_3 a0_4 true a0_6 e _ (Kd.C_below HR1.out HB.out) HC1.out (Kd.C_below HR2.out HB.out) HC2.out (Kd.C_below HR3.out HB.out) HC3.out (by unfold supply_End.f;rw [HV.out])).mono ?_
 rintro e_ w23 ⟨rfl,hb⟩
 refine ⟨_,rfl,?_⟩
 have n52_:=Aside0.mk (below_step HB.out hb)
 have n53_:=Aside0.mk (blk_below BK_g3.out hb)
 have n54_:=Aside0.mk (blk_below BK_g6.out hb)
 have n55_:=Aside0.mk (blk_below BK_g7.out hb)
 have n56_:=Aside0.mk (blk_below BK_g9.out hb)
 have n57_:=Aside0.mk (blk_below BK_g10.out hb)
 have n58_:=Aside0.mk (Kd.R_below O_cd.out hb)
 clear HB BK_g3 BK_g6 BK_g7 BK_g9 BK_g10 O_cd
 have HB:=n52_
 have BK_g3:=n53_
 have BK_g6:=n54_
 have BK_g7:=n55_
 have BK_g9:=n56_
 have BK_g10:=n57_
 have O_cd:=n58_
 clear n52_ n53_ n54_ n55_ n56_ n57_ n58_
 clear hb
 obtain ⟨hx_g9_0,hf_g9_0,hx_g9_1,hf_g9_1,hx_g9_2,hf_g9_2⟩:=cells3 BK_g9.out
 refine hK.out _ _ ⟨(blk_cell BK_g3.out 0).trans rfl,(blk_cell BK_g3.out 1).trans rfl,(blk_cell BK_g3.out 2).trans rfl,(blk_cell BK_g3.out 3).trans rfl,(blk_cell BK_g3.out 4).trans rfl,(blk_cell BK_g3.out 5).trans rfl,(blk_cell BK_g3.out 6).trans rfl,(blk_cell BK_g10.out 0).trans rfl⟩ (fun hHeld => ?_)
 clear hK K
 refine norm_ (a':=?_) ?_ ?_
 rotate_left
 ·show Act.put _ (some 86) _ = _
  simp only [Act.put,List.setIfInBounds_toArray,List.set_cons_zero,List.set_cons_succ,i64_w,i32_w]
  rfl
 refine pure_ (i:=6) (N:=some 87) (v:=?_) (a':=?_) #[true,true,true,true,true,true,true,false,false,false] rfl rfl (by kernel_rfl) (fun _ _ _ h => h) (Or.inl ⟨by rfl,?_⟩) ?_ ?_
 rotate_left
 ·intro w'
  go_simp
  with_reducible rfl
 rotate_left
 ·simp only [Act.put,List.setIfInBounds_toArray,List.set_cons_zero,List.set_cons_succ,i64_w,i32_w]
  rfl
 refine pure_ (i:=7) (N:=some 88) (v:=?_) (a':=?_) #[true,true,true,true,true,true,true,true,false,false] rfl rfl (by kernel_rfl) (fun _ _ _ h => h) (Or.inl ⟨by rfl,?_⟩) ?_ ?_
 rotate_left
 ·intro w'
  go_simp
  with_reducible rfl
 rotate_left
 ·simp only [Act.put,List.setIfInBounds_toArray,List.set_cons_zero,List.set_cons_succ,i64_w,i32_w]
  rfl
 refine pure_ (i:=8) (N:=some 89) (v:=?_) (a':=?_) #[true,true,true,true,true,true,true,true,true,false] rfl rfl (by kernel_rfl) (fun _ _ _ h => h) (Or.inl ⟨by rfl,?_⟩) ?_ ?_
 rotate_left
 ·intro w'
  go_simp
  with_reducible rfl
 rotate_left
 ·simp only [Act.put,List.setIfInBounds_toArray,List.set_cons_zero,List.set_cons_succ,i64_w,i32_w]
  rfl
 refine last_ (i:=9) (N:=none) #[true,true,true,true,true,true,true,true,true,true] rfl rfl (by kernel_rfl) (by decide) (fun K hK => ?_)
 refine skip_ (w1:=?_) (by rfl) rfl ?_ ?_
 rotate_left
 ·go_simp
  rfl
 refine hK.out _ _ ?_
 clear hK K
 refine done_ (by kernel_rfl) ?_
 clear hx_g9_0 hf_g9_0 hx_g9_1 hf_g9_1 hx_g9_2 hf_g9_2
 have n59_ : Aside0 ((w23.setCell ⟨g9,2,none⟩ (.bool true)).heap[g9]? = some (.cells #[.int .u64 e,.slice Dy y.length qy,.bool true] 32 (0,0))):=⟨blk_put (BK_g9.out) 2 (.bool true) (cs':=#[.int .u64 e,.slice Dy y.length qy,.bool true]) rfl⟩
 have n60_ : Aside0 ((w23.setCell ⟨g9,2,none⟩ (.bool true)).heap[g3]? = some (.cells #[.int .u64 a0_0,.slice A0_1 l0_1.length c0_1,.slice A0_2 l0_2.length c0_2,.slice A0_3 l0_3.length c0_3,.bool a0_4,.bool true,.bool a0_6] 27 (0,0))):=⟨blk_far (p:=⟨g9,2,none⟩) (BK_g3.out) NB_g3_g9 (.bool true)⟩
 have n61_ : Aside0 ((w23.setCell ⟨g9,2,none⟩ (.bool true)).heap[g6]? = some (.cells #[.int .u64 0,.slice none 0 0,.slice none 0 0,.slice none 0 0,.bool false,.bool false,.bool false] 27 (0,0))):=⟨blk_far (p:=⟨g9,2,none⟩) (BK_g6.out) NB_g6_g9 (.bool true)⟩
 have n62_ : Aside0 ((w23.setCell ⟨g9,2,none⟩ (.bool true)).heap[g7]? = some (.cells #[.int .u64 0,.slice none 0 0,.bool false] 32 (0,0))):=⟨blk_far (p:=⟨g9,2,none⟩) (BK_g7.out) NB_g7_g9 (.bool true)⟩
 have n63_ : Aside0 ((w23.setCell ⟨g9,2,none⟩ (.bool true)).heap[g10]? = some (.cells #[.int .u64 e] 24 (0,0))):=⟨blk_far (p:=⟨g9,2,none⟩) (BK_g10.out) NB_g10_g9 (.bool true)⟩
 have n64_ : Aside0 (Kd.R (Kd.int .u8) 5 (w23.setCell ⟨g9,2,none⟩ (.bool true)) w.heap.size (fun _ => True) (.slice Dy y.length qy) (y)):=⟨Kd.R_mono (Kd.R_far (p:=⟨g9,2,none⟩) (Kd.R_types O_cd.out BK_g9.out (ne_of rfl (by decide))) (fun _ hk => hk.2) (.bool true)) (fun _ _ => trivial)⟩
 have n65_ : Aside0 (Below w.heap.size w (w23.setCell ⟨g9,2,none⟩ (.bool true))):=⟨below_set (HB.out) GE_g9.out (j:=2) (v:=.bool true)⟩
 clear BK_g9 BK_g3 BK_g6 BK_g7 BK_g10 O_cd HB
 have BK_g9:=n59_
 have BK_g3:=n60_
 have BK_g6:=n61_
 have BK_g7:=n62_
 have BK_g10:=n63_
 have O_cd:=n64_
 have HB:=n65_
 clear n59_ n60_ n61_ n62_ n63_ n64_ n65_
 generalize (w23.setCell ⟨g9,2,none⟩ (.bool true)) = w24 at BK_g9 BK_g3 BK_g6 BK_g7 BK_g10 O_cd HB ⊢
 go_upto_region 12 with fail
 have n66_:=Aside0.mk (below_drew1 HB.out)
 have n67_:=Aside0.mk (blk_drew BK_g3.out)
 have n68_:=Aside0.mk (blk_drew BK_g6.out)
 have n69_:=Aside0.mk (blk_drew BK_g7.out)
 have n70_:=Aside0.mk (blk_drew BK_g9.out)
 have n71_:=Aside0.mk (blk_drew BK_g10.out)
 have n72_:=Aside0.mk (Kd.R_drew O_cd.out)
 clear HB BK_g3 BK_g6 BK_g7 BK_g9 BK_g10 O_cd
 have HB:=n66_
 have BK_g3:=n67_
 have BK_g6:=n68_
 have BK_g7:=n69_
 have BK_g9:=n70_
 have BK_g10:=n71_
 have O_cd:=n72_
 clear n66_ n67_ n68_ n69_ n70_ n71_ n72_
 (try simp only [Act.put,List.setIfInBounds_toArray,List.set_cons_zero,List.set_cons_succ])
 refine start_ (n:=7) (S:=fun w' => w'.cell? ⟨g3,0,none⟩ = some (.int .u64 a0_0) ∧ w'.cell? ⟨g3,1,none⟩ = some (.slice A0_1 l0_1.length c0_1) ∧ w'.cell? ⟨g3,2,none⟩ = some (.slice A0_2 l0_2.length c0_2) ∧ w'.cell? ⟨g3,3,none⟩ = some (.slice A0_3 l0_3.length c0_3) ∧ w'.cell? ⟨g3,4,none⟩ = some (.bool a0_4) ∧ w'.cell? ⟨g3,5,none⟩ = some (.bool true) ∧ w'.cell? ⟨g3,6,none⟩ = some (.bool a0_6) ∧ w'.cell? ⟨g9,0,none⟩ = some (.int .u64 e) ∧ w'.cell? ⟨g9,1,none⟩ = some (.slice Dy y.length qy) ∧ w'.cell? ⟨g9,2,none⟩ = some (.bool true)) (ds:=[5]) #[false,false,false,false,false,false,false] (by kernel_rfl) rfl rfl ⟨(blk_cell BK_g3.out 0).trans rfl,(blk_cell BK_g3.out 1).trans rfl,(blk_cell BK_g3.out 2).trans rfl,(blk_cell BK_g3.out 3).trans rfl,(blk_cell BK_g3.out 4).trans rfl,(blk_cell BK_g3.out 5).trans rfl,(blk_cell BK_g3.out 6).trans rfl,(blk_cell BK_g9.out 0).trans rfl,(blk_cell BK_g9.out 1).trans rfl,(blk_cell BK_g9.out 2).trans rfl⟩ (fun hHeld => ?_)
 generalize w24.drew = w25 at HB BK_g3 BK_g6 BK_g7 BK_g9 BK_g10 O_cd hHeld ⊢
 have HLT:=Aside0.mk (Kd.R_lt O_cd.out)
 refine pure_ (i:=1) (N:=some 91) (v:=?_) (a':=?_) #[false,true,false,false,false,false,false] rfl rfl (by kernel_rfl) (fun _ _ _ h => h) (Or.inl ⟨by rfl,?_⟩) ?_ ?_
 rotate_left
 ·intro w'
  go_simp
  with_reducible rfl
 rotate_left
 ·simp only [Act.put,List.setIfInBounds_toArray,List.set_cons_zero,List.set_cons_succ,i64_w,i32_w]
  rfl
 refine take_ (i:=0) (N:=some 90) (v:=?_) (a':=?_) #[true,true,false,false,false,false,false] rfl rfl (by kernel_rfl) (fun _ _ _ h => h) (Or.inl ⟨by rfl,?_⟩) hHeld ?_ ?_
 rotate_left
 ·rintro w' ⟨s0,s1,s2,s3,s4,s5,s6,s7,s8,s9⟩
  go_simp
  with_reducible rfl
 rotate_left
 ·simp only [Act.put,List.setIfInBounds_toArray,List.set_cons_zero,List.set_cons_succ,i64_w,i32_w]
  rfl
 refine take_ (i:=3) (N:=some 93) (v:=?_) (a':=?_) #[true,true,false,true,false,false,false] rfl rfl (by kernel_rfl) (fun _ _ _ h => h) (Or.inl ⟨by rfl,?_⟩) hHeld ?_ ?_
 rotate_left
 ·rintro w' ⟨s0,s1,s2,s3,s4,s5,s6,s7,s8,s9⟩
  go_simp
  with_reducible rfl
 rotate_left
 ·simp only [Act.put,List.setIfInBounds_toArray,List.set_cons_zero,List.set_cons_succ,i64_w,i32_w]
  rfl
 refine one_ (i:=2) (N:=some 92) #[true,true,true,true,false,false,false] rfl rfl (by kernel_rfl) (by decide) (fun K hK => ?_)
 refine goes_ Try.func19 (by kernel_rfl) rfl #[.agg #[.int .u64 a0_0,.slice A0_1 l0_1.length c0_1,.slice A0_2 l0_2.length c0_2,.slice A0_3 l0_3.length c0_3,.bool a0_4,.bool true,.bool a0_6],.func (.func 23) #[] #[.pointer (some ⟨g9,0,none⟩),.pointer (some ⟨g10,0,none⟩)]] (by rfl) rfl rfl (by (try simp only [List.map_toArray,List.map_cons,List.map_nil]);first | done | rfl) ?_
 refine (supply_changed.hand (fun W_ x0 y1 y2 y3 y4 y5 y6 => a0_0 = x0 ∧ a0_4 = y4 ∧ f5 = y5 ∧ a0_6 = y6 ∧ Kd.R (Kd.int .u8) 5 W_ w25.heap.size (fun _ => True) y1 l0_1 ∧ Kd.R k37 37 W_ w25.heap.size (fun _ => True) y2 t2 ∧ Kd.R k37 37 W_ w25.heap.size (fun _ => True) y3 l0_3) a0_0 _ _ l0_1 _ _ l0_2 _ _ l0_3 a0_4 true a0_6 23 _ #[.pointer (some ⟨g9,0,none⟩),.pointer (some ⟨g10,0,none⟩)] w25 (by rintro W_ g_ cs_ b0 b1 b2 b3 b4 b5 b6 x0 y1 y2 y3 y4 y5 y6 hb_ ⟨rfl,rfl,rfl,rfl,h1,h2,h3⟩;exact ⟨rfl,rfl,rfl,rfl,R_set7 h1 hb_ (ne_of rfl (by decide)),R_set7 h2 hb_ (ne_of rfl (by decide)),R_set7 h3 hb_ (ne_of rfl (by decide))⟩) Try.func23 (by kernel_rfl) rfl (Kd.C_below HR1.out HB.out) HC1.out (Kd.C_below HR2.out HB.out) HC2.out (Kd.C_below HR3.out HB.out) HC3.out HL.out.1 HL.out.2.1 HL.out.2.2.1 (fun g_ g4_ cs4_ v1_ v2_ v3_ W_ hb_ hb4_ hne_ hge_ hr1_ hr2_ hr3_ hB_ => Calls.mono (supply_Next_1.hand g9 g10 (.slice Dy y.length qy) e e true t2 a0_0 l0_1 l0_2 l0_3 v1_ v2_ v3_ a0_4 true a0_6 g_ g4_ cs4_ w25 W_ hb_ hb4_ hne_ hge_ hr1_ hr2_ hr3_ hB_ (blk_below BK_g9.out hB_) (blk_below BK_g10.out hB_) HT.out) (by rintro e_ W2_ ⟨rfl,u2_,hb2_,hb42_,q1_,q2_,q3_,hB2_⟩;obtain ⟨X1,Y1,z1⟩:=Kd.R_slice q1_;obtain ⟨X2,Y2,z2⟩:=Kd.R_slice q2_;obtain ⟨X3,Y3,z3⟩:=Kd.R_slice q3_;subst z1 z2 z3;exact ⟨rfl,_,_,_,_,_,_,_,_,_,_,_,_,_,hb2_,hb42_,⟨rfl,rfl,HF5.out.symm,rfl,q1_,q2_,q3_⟩,hB2_⟩))).mono ?_
 rintro e_ w26 ⟨x0,B1,p1,q1,B2,p2,q2,B3,p3,q3,y4,y5,y6,rfl,⟨rfl,rfl,rfl,rfl,h1,h2,h3⟩,hb⟩
 refine ⟨_,rfl,?_⟩
 have hsz_:=HB.out.size
 have F1:=Aside0.mk h1
 have F2:=Aside0.mk h2
 have F3:=Aside0.mk h3
 have HSZ:=Aside0.mk hsz_
 clear h1 h2 h3 hsz_
 have n73_:=Aside0.mk (below_step HB.out hb)
 have n74_:=Aside0.mk (blk_below BK_g3.out hb)
 have n75_:=Aside0.mk (blk_below BK_g6.out hb)
 have n76_:=Aside0.mk (blk_below BK_g7.out hb)
 have n77_:=Aside0.mk (blk_below BK_g9.out hb)
 have n78_:=Aside0.mk (blk_below BK_g10.out hb)
 have n79_:=Aside0.mk (Kd.R_below O_cd.out hb)
 clear HB BK_g3 BK_g6 BK_g7 BK_g9 BK_g10 O_cd
 have HB:=n73_
 have BK_g3:=n74_
 have BK_g6:=n75_
 have BK_g7:=n76_
 have BK_g9:=n77_
 have BK_g10:=n78_
 have O_cd:=n79_
 clear n73_ n74_ n75_ n76_ n77_ n78_ n79_
 clear hb
 obtain ⟨hx_g6_0,hf_g6_0,hx_g6_1,hf_g6_1,hx_g6_2,hf_g6_2,hx_g6_3,hf_g6_3,hx_g6_4,hf_g6_4,hx_g6_5,hf_g6_5,hx_g6_6,hf_g6_6⟩:=cells7 BK_g6.out
 obtain ⟨hx_g7_0,hf_g7_0,hx_g7_1,hf_g7_1,hx_g7_2,hf_g7_2⟩:=cells3 BK_g7.out
 obtain ⟨hx_g9_0,hf_g9_0,hx_g9_1,hf_g9_1,hx_g9_2,hf_g9_2⟩:=cells3 BK_g9.out
 obtain ⟨hx_g3_0,hf_g3_0,hx_g3_1,hf_g3_1,hx_g3_2,hf_g3_2,hx_g3_3,hf_g3_3,hx_g3_4,hf_g3_4,hx_g3_5,hf_g3_5,hx_g3_6,hf_g3_6⟩:=cells7 BK_g3.out
 refine hK.out _ _ ⟨(blk_cell BK_g3.out 0).trans rfl,(blk_cell BK_g3.out 1).trans rfl,(blk_cell BK_g3.out 2).trans rfl,(blk_cell BK_g3.out 3).trans rfl,(blk_cell BK_g3.out 4).trans rfl,(blk_cell BK_g3.out 5).trans rfl,(blk_cell BK_g3.out 6).trans rfl,(blk_cell BK_g9.out 0).trans rfl,(blk_cell BK_g9.out 1).trans rfl,(blk_cell BK_g9.out 2).trans rfl⟩ (fun hHeld => ?_)
 clear hK K
 refine norm_ (a':=?_) ?_ ?_
 rotate_left
 ·show Act.put _ (some 92) _ = _
  simp only [Act.put,List.setIfInBounds_toArray,List.set_cons_zero,List.set_cons_succ,i64_w,i32_w]
  rfl
 refine one_ (i:=4) (N:=none) #[true,true,true,true,true,false,false] rfl rfl (by kernel_rfl) (by decide) (fun K hK => ?_)
 refine skip_ (w1:=?_) (by rfl) rfl ?_ ?_
 rotate_left
 ·go_simp
  rfl
 clear hx_g6_0 hf_g6_0 hx_g6_1 hf_g6_1 hx_g6_2 hf_g6_2 hx_g6_3 hf_g6_3 hx_g6_4 hf_g6_4 hx_g6_5 hf_g6_5 hx_g6_6 hf_g6_6 hx_g7_0 hf_g7_0 hx_g7_1 hf_g7_1 hx_g7_2 hf_g7_2 hx_g9_0 hf_g9_0 hx_g9_1 hf_g9_1 hx_g9_2 hf_g9_2 hx_g3_0 hf_g3_0 hx_g3_1 hf_g3_1 hx_g3_2 hf_g3_2 hx_g3_3 hf_g3_3 hx_g3_4 hf_g3_4 hx_g3_5 hf_g3_5 hx_g3_6 hf_g3_6
 obtain ⟨w27,hw80_⟩ : ∃ w_ : World,set7 w26 g6 (.int .u64 a0_0) (.slice B1 p1 q1) (.slice B2 p2 q2) (.slice B3 p3 q3) (.bool a0_4) (.bool f5) (.bool a0_6) = w_:=⟨_,rfl⟩
 have n81_:=Aside0.mk (blk7 hw80_ BK_g6.out)
 have n82_:=Aside0.mk (far7 hw80_ NB_g3_g6 BK_g3.out)
 have n83_:=Aside0.mk (far7 hw80_ NB_g7_g6 BK_g7.out)
 have n84_:=Aside0.mk (far7 hw80_ NB_g9_g6 BK_g9.out)
 have n85_:=Aside0.mk (far7 hw80_ NB_g10_g6 BK_g10.out)
 have n86_:=Aside0.mk (R7 hw80_ BK_g6.out rfl (by decide) O_cd.out)
 have n87_:=Aside0.mk (R7 hw80_ BK_g6.out rfl (by decide) F1.out)
 have n88_:=Aside0.mk (R7 hw80_ BK_g6.out rfl (by decide) F2.out)
 have n89_:=Aside0.mk (R7 hw80_ BK_g6.out rfl (by decide) F3.out)
 have n90_:=Aside0.mk (below7 hw80_ GE_g6.out HB.out)
 rw [set7_fold,hw80_]
 clear hw80_ BK_g6 BK_g3 BK_g7 BK_g9 BK_g10 O_cd F1 F2 F3 HB
 have BK_g6:=n81_
 have BK_g3:=n82_
 have BK_g7:=n83_
 have BK_g9:=n84_
 have BK_g10:=n85_
 have O_cd:=n86_
 have F1:=n87_
 have F2:=n88_
 have F3:=n89_
 have HB:=n90_
 clear n81_ n82_ n83_ n84_ n85_ n86_ n87_ n88_ n89_ n90_
 obtain ⟨hx_g7_0,hf_g7_0,hx_g7_1,hf_g7_1,hx_g7_2,hf_g7_2⟩:=cells3 BK_g7.out
 refine hK.out _ _ ⟨(blk_cell BK_g3.out 0).trans rfl,(blk_cell BK_g3.out 1).trans rfl,(blk_cell BK_g3.out 2).trans rfl,(blk_cell BK_g3.out 3).trans rfl,(blk_cell BK_g3.out 4).trans rfl,(blk_cell BK_g3.out 5).trans rfl,(blk_cell BK_g3.out 6).trans rfl,(blk_cell BK_g9.out 0).trans rfl,(blk_cell BK_g9.out 1).trans rfl,(blk_cell BK_g9.out 2).trans rfl⟩ (fun hHeld => ?_)
 clear hK K
 refine last_ (i:=5) (N:=none) #[true,true,true,true,true,true,false] rfl rfl (by kernel_rfl) (by decide) (fun K hK => ?_)
 refine skip_ (w1:=?_) (by rfl) rfl ?_ ?_
 rotate_left
 ·go_simp
  rfl
 refine hK.out _ _ ?_
 clear hK K
 refine pure_ (i:=6) (N:=some 8) (v:=?_) (a':=?_) #[true,true,true,true,true,true,true] rfl rfl (by kernel_rfl) (fun _ _ _ h => h) (Or.inl ⟨by rfl,?_⟩) ?_ ?_
 rotate_left
 ·intro w'
  go_simp
  with_reducible rfl
 rotate_left
 ·simp only [Act.put,List.setIfInBounds_toArray,List.set_cons_zero,List.set_cons_succ,i64_w,i32_w]
  rfl
 refine done_ (by kernel_rfl) ?_
 go_wp2
 refine bodyPost_ret (results_list (rs:=[.cell 6 27,.cell 7 32,.tmp 8]) rfl (by simp) (.cell g6 27 #[.int .u64 a0_0,.slice B1 p1 q1,.slice B2 p2 q2,.slice B3 p3 q3,.bool a0_4,.bool f5,.bool a0_6] (0,0) _ rfl (blk_far (p:=⟨g7,2,none⟩) (blk_far (p:=⟨g7,1,none⟩) (blk_far (p:=⟨g7,0,none⟩) (BK_g6.out) NB_g6_g7 (.int .u64 e)) NB_g6_g7 (.slice Dy y.length qy)) NB_g6_g7 (.bool true)) Try.underlying27 rfl (by kernel_rfl) (.cell g7 32 #[.int .u64 e,.slice Dy y.length qy,.bool true] (0,0) _ rfl (blk_put (blk_put (blk_put (BK_g7.out) 0 (.int .u64 e) (cs':=#[.int .u64 e,.slice none 0 0,.bool false]) rfl) 1 (.slice Dy y.length qy) (cs':=#[.int .u64 e,.slice Dy y.length qy,.bool false]) rfl) 2 (.bool true) (cs':=#[.int .u64 e,.slice Dy y.length qy,.bool true]) rfl) Try.underlying32 rfl (by kernel_rfl) (.tmp .nil)))) rfl ?_
 exact ⟨_,_,_,_,rfl,Kd.R_mono (Kd.R_lower (Kd.R_bound (Kd.R_mono (Kd.R_far (p:=⟨g7,2,none⟩) (Kd.R_far (p:=⟨g7,1,none⟩) (Kd.R_far (p:=⟨g7,0,none⟩) (Kd.R_types F1.out BK_g7.out (ne_of rfl (by decide))) (fun _ hk => hk.2) (.int .u64 e)) (fun _ hk => hk.2) (.slice Dy y.length qy)) (fun _ hk => hk.2) (.bool true)) (fun _ _ => trivial))) HSZ.out) (fun k hk => fun he_ => Nat.lt_irrefl _ (Nat.lt_of_lt_of_le (HLT.out k he_.symm) hk.2.1)),Kd.R_mono (Kd.R_lower (Kd.R_bound (Kd.R_mono (Kd.R_far (p:=⟨g7,2,none⟩) (Kd.R_far (p:=⟨g7,1,none⟩) (Kd.R_far (p:=⟨g7,0,none⟩) (Kd.R_types F2.out BK_g7.out (ne_of rfl (by decide))) (fun _ hk => hk.2) (.int .u64 e)) (fun _ hk => hk.2) (.slice Dy y.length qy)) (fun _ hk => hk.2) (.bool true)) (fun _ _ => trivial))) HSZ.out) (fun k hk => fun he_ => Nat.lt_irrefl _ (Nat.lt_of_lt_of_le (HLT.out k he_.symm) hk.2.1)),Kd.R_mono (Kd.R_lower (Kd.R_bound (Kd.R_mono (Kd.R_far (p:=⟨g7,2,none⟩) (Kd.R_far (p:=⟨g7,1,none⟩) (Kd.R_far (p:=⟨g7,0,none⟩) (Kd.R_types F3.out BK_g7.out (ne_of rfl (by decide))) (fun _ hk => hk.2) (.int .u64 e)) (fun _ hk => hk.2) (.slice Dy y.length qy)) (fun _ hk => hk.2) (.bool true)) (fun _ _ => trivial))) HSZ.out) (fun k hk => fun he_ => Nat.lt_irrefl _ (Nat.lt_of_lt_of_le (HLT.out k he_.symm) hk.2.1)),Kd.R_mono (Kd.R_far (p:=⟨g7,2,none⟩) (Kd.R_far (p:=⟨g7,1,none⟩) (Kd.R_far (p:=⟨g7,0,none⟩) (Kd.R_types O_cd.out BK_g7.out (ne_of rfl (by decide))) (fun _ hk => hk.2) (.int .u64 e)) (fun _ hk => hk.2) (.slice Dy y.length qy)) (fun _ hk => hk.2) (.bool true)) (fun _ _ => trivial),below_set (below_set (below_set (HB.out) GE_g7.out (j:=0) (v:=.int .u64 e)) GE_g7.out (j:=1) (v:=.slice Dy y.length qy)) GE_g7.out (j:=2) (v:=.bool true)⟩
set_option maxHeartbeats 8000000 in
set_option maxRecDepth 100000 in
theorem supply_Next.part_ (a0_0 : Int) (A0_1 : Option Addr) (c0_1 : Nat) (l0_1 : List Int) (A0_2 : Option Addr) (c0_2 : Nat) (l0_2 : List S37) (A0_3 : Option Addr) (c0_3 : Nat) (l0_3 : List S37) (a0_4 : Bool) (a0_5 : Bool) (a0_6 : Bool) (a1 : Int) (a2 : Int) (off tz : Int) (p q : Nat) (cf : Bool) (t2 : List S37) (y : List Int) (tq m : Int) (w : World)
  (hr0_1 : Kd.C (Kd.int .u8) w A0_1 l0_1.length l0_1) (hc0_1 : l0_1.length ≤ c0_1) (hr0_2 : Kd.C k37 w A0_2 l0_2.length l0_2) (hc0_2 : l0_2.length ≤ c0_2) (hr0_3 : Kd.C k37 w A0_3 l0_3.length l0_3) (hc0_3 : l0_3.length ≤ c0_3) (hL : l0_1.length < 1000000000 ∧ l0_2.length < 1000000000 ∧ l0_3.length < 1000000000 ∧ 0 ≤ a0_0 ∧ a0_0 + (l0_1.length : Int) ≤ 4611686018427387904)  (h2 : 0 < l0_2.length) (h6 : 0 < a1) (ho : (rd_T37 l0_2 0).f0 = off) (htq : mn (rd_T37 l0_2 0).f1 a2 = tq) (h7 : off < tq) (hm : IntKind.u64.wrap (off + IntKind.u64.wrap a1) = m) (hz : mn tq m = tz) (hy : y = (l0_1.take q).drop p) (hT : span_Cut.f l0_2 off tz = some t2) (hp : off - a0_0 = (p : Int)) (hq : tz - a0_0 = (q : Int)) (hpq : p ≤ q) (hqd : q ≤ l0_1.length) (hcf : cf = (a0_5 && (tz == a0_0 + (l0_1.length : Int)))) :
  Calls Try.prog 10 #[.agg #[.int .u64 a0_0,.slice A0_1 l0_1.length c0_1,.slice A0_2 l0_2.length c0_2,.slice A0_3 l0_3.length c0_3,.bool a0_4,.bool a0_5,.bool a0_6],.int .i64 a1,.int .u64 a2] w fun e w' => ∃ v1_ v2_ v3_ v8_ : Value,e = .returned (.tuple #[.agg #[.int .u64 a0_0,v1_,v2_,v3_,.bool a0_4,.bool (a0_5 && !cf),.bool a0_6],.agg #[.int .u64 off,v8_,.bool cf],.bool true]) ∧ Kd.R (Kd.int .u8) 5 w' w.heap.size (fun k_ => some k_ ≠ (v8_ : Value).ownBlock) v1_ l0_1 ∧ Kd.R k37 37 w' w.heap.size (fun k_ => some k_ ≠ (v8_ : Value).ownBlock) v2_ t2 ∧ Kd.R k37 37 w' w.heap.size (fun k_ => some k_ ≠ (v8_ : Value).ownBlock) v3_ l0_3 ∧ Kd.R (Kd.int .u8) 5 w' w.heap.size (fun _ => True) v8_ y ∧ Below w.heap.size w w':=by
 have HR1:=Aside0.mk hr0_1
 have HC1:=Aside0.mk hc0_1
 have HR2:=Aside0.mk hr0_2
 have HC2:=Aside0.mk hc0_2
 have HR3:=Aside0.mk hr0_3
 have HC3:=Aside0.mk hc0_3
 have HB:=Aside0.mk (Below.refl w.heap.size w)
 clear hr0_1 hc0_1 hr0_2 hc0_2 hr0_3 hc0_3
 obtain ⟨e,he⟩ : ∃ e : Int,e = a0_0 + (l0_1.length : Int):=⟨_,rfl⟩
 have HL:=Aside0.mk hL
 have HE:=Aside0.mk he
 have HV : Aside0 (IntKind.u64.wrap (a0_0 + IntKind.u64.wrap (l0_1.length : Int)) = e):=⟨by rw [IntKind.wrap_u64,IntKind.wrap_u64];omega⟩
 have HCD0:=Kd.C_mid (hi:=q) (lo:=p) HR1.out hpq hqd HC1.out
 have hyl : y.length = q - p:=by rw [hy,List.length_drop,List.length_take];omega
 obtain ⟨Ad,hAd⟩ : ∃ A_ : Option Addr,(if q = p then A0_1 else A0_1.map (·.add (p * 1))) = A_:=⟨_,rfl⟩
 have HCD : Aside0 (Kd.C (Kd.int .u8) w Ad y.length y):=⟨by
  by_cases qp : q = p
  ·have : y = []:=List.eq_nil_of_length_eq_zero (by omega)
   rw [this]
   exact ⟨rfl,by simp,fun h => absurd h (Nat.lt_irrefl 0)⟩
  ·rw [← hAd,if_neg qp,hy]
   rw [if_neg (by have:=HC1.out;omega)] at HCD0
   exact HCD0⟩
 have HYL:=Aside0.mk hyl
 have HPQ:=Aside0.mk (show q ≤ l0_1.length from hqd)
 obtain ⟨i_,hi_,_,hsz_,_⟩:=info_parts info5
 have hel : Try.prog.elem 22 = 5:=by simp [Program.elem,Try.underlying22]
 have hu : Try.prog.underlying 22 = some (.slice (Try.prog.elem 22)):=by rw [hel];exact Try.underlying22
 have hcut : ∀ W : World,(Instr.slice 22 (.slice A0_1 l0_1.length c0_1) (some (.int .u64 (p : Int))) (some (.int .u64 (q : Int))) (some (.int .u64 (q : Int)))).run Try.prog W = .ok (.slice Ad y.length (q - p)) W:=by
  intro W
  rw [run_slice_lhm W 22 A0_1 l0_1.length c0_1 hu .u64 .u64 .u64 (p : Int) (q : Int) (q : Int) (by omega) (by omega) (by omega) (by have:=HC1.out;omega),hel,← hAd,hyl]
  simp [sizeOf,typeInfo,hi_,hsz_,sliced,Result.andThen]
 have hw1 : IntKind.u64.wrap (off - a0_0) = (p : Int):=by rw [IntKind.wrap_u64];omega
 have hw2 : IntKind.u64.wrap (tz - a0_0) = (q : Int):=by rw [IntKind.wrap_u64];omega
 have HT:=Aside0.mk hT
 clear HCD0 hyl hAd hi_ hsz_ hel hu hp hq hpq hqd hT
 rw [← he] at hcf
 have HCF:=Aside0.mk hcf
 clear hcf
 have HY:=Aside0.mk hy
 clear hy
 obtain ⟨x1,hx1⟩ : ∃ x_ : Int,(rd_T37 l0_2 0).f1 = x_:=⟨_,rfl⟩
 rw [hx1] at htq
 obtain ⟨ad,e_,hxa,hxb⟩:=at_T37 HR2.out 0 (by omega) (by omega)
 subst e_
 (try rw [show ((0 : Int)).toNat = 0 from rfl] at hxa)
 (try rw [show 0 * 2 = 0 from rfl] at hxa)
 (try rw [Addr.add_zero'] at hxa)
 (try rw [show ((0 : Int)).toNat = 0 from rfl] at hxb)
 (try rw [show 0 * 2 = 0 from rfl] at hxb)
 (try rw [Addr.add_zero'] at hxb)
 have qi_ : (0 < l0_2.length) = True:=eq_true (by omega)
 have qj_ : ((0 : Int) < (l0_2.length : Int)) = True:=eq_true (by omega)
 have HXA:=Aside0.mk hxa
 have HXB:=Aside0.mk hxb
 clear hxa hxb
 rw [ho] at HXA
 rw [hx1] at HXB
 have htq_ : (if a2 < x1 then a2 else x1) = tq:=htq
 have hz_ : (if m < tq then m else tq) = tz:=hz
 have kb : decide (a1 ≤ 0) = false:=decide_eq_false (by omega)
 have kc : decide (tq ≤ off) = false:=decide_eq_false (by omega)
 generalize hf5 : (a0_5 && !cf) = f5
 have HF5:=Aside0.mk hf5
 clear hf5
 have k0 : ((l0_2.length : Int) == 0) = false:=beq_eq_false_iff_ne.mpr (by omega)
 have k1 : (l0_2.length == 0) = false:=beq_eq_false_iff_ne.mpr (by omega)
 have k2 : decide ((l0_2.length : Int) > 0) = true:=decide_eq_true (by omega)
 have k3 : decide ((0 : Int) < (l0_2.length : Int)) = true:=decide_eq_true (by omega)
 have k4 : decide (0 < l0_2.length) = true:=decide_eq_true (by omega)
 clear h2 h6 h7 ho htq hz hx1
 clear hL he
 go_enter Try.func10,Try.ntmps10
 go_upto_region 2 with (first
  | ((with_reducible refine gate_dst (N:=3) rfl ?_);refine box_event ?hg (N:=3) ?hd (cs:=#[.int .u64 a0_0,.slice A0_1 l0_1.length c0_1,.slice (some ad) l0_2.length c0_2,.slice A0_3 l0_3.length c0_3,.bool a0_4,.bool a0_5,.bool a0_6]) (t:=27) ?hr ?_;(case hd => rfl);(case hg => rfl);(case hr => first | (go_simp;done) | (go_simp;rfl));intro g3 hg w2 hbox hb;have GE_g3:=Aside0.mk (show w.heap.size ≤ g3 by rw [hg];exact HB.out.size);have n1_:=Aside0.mk (below_step HB.out hb);clear HB;have HB:=n1_;clear n1_;have BK_g3:=Aside0.mk hbox;clear hbox hb hg)
  | ((with_reducible refine gate_dst (N:=6) rfl ?_);refine box_event ?hg (N:=6) ?hd (cs:=#[.int .u64 0,.slice none 0 0,.slice none 0 0,.slice none 0 0,.bool false,.bool false,.bool false]) (t:=27) ?hr ?_;(case hd => rfl);(case hg => rfl);(case hr => first | (go_simp;done) | (go_simp;rfl));intro g6 hg w3 hbox hb;have GE_g6:=Aside0.mk (show w.heap.size ≤ g6 by rw [hg];exact HB.out.size);have NB_g3_g6 : g3 ≠ g6:=(by rw [hg];exact Nat.ne_of_lt (blk_lt BK_g3.out));have NB_g6_g3:=NB_g3_g6.symm;have n2_:=Aside0.mk (below_step HB.out hb);have n3_:=Aside0.mk (blk_below BK_g3.out hb);clear HB BK_g3;have HB:=n2_;have BK_g3:=n3_;clear n2_ n3_;have BK_g6:=Aside0.mk hbox;clear hbox hb hg)
  | ((with_reducible refine gate_dst (N:=7) rfl ?_);refine box_event ?hg (N:=7) ?hd (cs:=#[.int .u64 0,.slice none 0 0,.bool false]) (t:=32) ?hr ?_;(case hd => rfl);(case hg => rfl);(case hr => first | (go_simp;done) | (go_simp;rfl));intro g7 hg w4 hbox hb;have GE_g7:=Aside0.mk (show w.heap.size ≤ g7 by rw [hg];exact HB.out.size);have NB_g3_g7 : g3 ≠ g7:=(by rw [hg];exact Nat.ne_of_lt (blk_lt BK_g3.out));have NB_g7_g3:=NB_g3_g7.symm;have NB_g6_g7 : g6 ≠ g7:=(by rw [hg];exact Nat.ne_of_lt (blk_lt BK_g6.out));have NB_g7_g6:=NB_g6_g7.symm;have n4_:=Aside0.mk (below_step HB.out hb);have n5_:=Aside0.mk (blk_below BK_g3.out hb);have n6_:=Aside0.mk (blk_below BK_g6.out hb);clear HB BK_g3 BK_g6;have HB:=n4_;have BK_g3:=n5_;have BK_g6:=n6_;clear n4_ n5_ n6_;have BK_g7:=Aside0.mk hbox;clear hbox hb hg;obtain ⟨hx_g3_0,hf_g3_0,hx_g3_1,hf_g3_1,hx_g3_2,hf_g3_2,hx_g3_3,hf_g3_3,hx_g3_4,hf_g3_4,hx_g3_5,hf_g3_5,hx_g3_6,hf_g3_6⟩:=cells7 BK_g3.out)
  | ((with_reducible refine gate_callee (f:=15) rfl ?_);refine goesL_ (some 12) rfl rfl Try.func15 (by kernel_rfl) rfl #[.agg #[.int .u64 a0_0,.slice A0_1 l0_1.length c0_1,.slice (some ad) l0_2.length c0_2,.slice A0_3 l0_3.length c0_3,.bool a0_4,.bool a0_5,.bool a0_6]] rfl (by (try simp only [List.map_toArray,List.map_cons,List.map_nil]);first | done | rfl) ?_;refine (supply_End.calls a0_0 _ _ l0_1 _ _ l0_2 _ _ l0_3 a0_4 a0_5 a0_6 e _ (Kd.C_below HR1.out HB.out) HC1.out (Kd.C_below HR2.out HB.out) HC2.out (Kd.C_below HR3.out HB.out) HC3.out (by unfold supply_End.f;rw [HV.out])).mono ?_;rintro e_ w5 ⟨rfl,hb⟩;refine ⟨_,rfl,?_⟩;clear hx_g3_0 hf_g3_0 hx_g3_1 hf_g3_1 hx_g3_2 hf_g3_2 hx_g3_3 hf_g3_3 hx_g3_4 hf_g3_4 hx_g3_5 hf_g3_5 hx_g3_6 hf_g3_6;have n7_:=Aside0.mk (below_step HB.out hb);have n8_:=Aside0.mk (blk_below BK_g3.out hb);have n9_:=Aside0.mk (blk_below BK_g6.out hb);have n10_:=Aside0.mk (blk_below BK_g7.out hb);clear HB BK_g3 BK_g6 BK_g7;have HB:=n7_;have BK_g3:=n8_;have BK_g6:=n9_;have BK_g7:=n10_;clear n7_ n8_ n9_ n10_;clear hb)
  | ((with_reducible refine gate_dst (N:=9) rfl ?_);refine box_event ?hg (N:=9) ?hd (cs:=#[.int .u64 0,.slice none 0 0,.bool false]) (t:=32) ?hr ?_;(case hd => rfl);(case hg => rfl);(case hr => first | (go_simp;done) | (go_simp;rfl));intro g9 hg w6 hbox hb;have GE_g9:=Aside0.mk (show w.heap.size ≤ g9 by rw [hg];exact HB.out.size);have NB_g3_g9 : g3 ≠ g9:=(by rw [hg];exact Nat.ne_of_lt (blk_lt BK_g3.out));have NB_g9_g3:=NB_g3_g9.symm;have NB_g6_g9 : g6 ≠ g9:=(by rw [hg];exact Nat.ne_of_lt (blk_lt BK_g6.out));have NB_g9_g6:=NB_g6_g9.symm;have NB_g7_g9 : g7 ≠ g9:=(by rw [hg];exact Nat.ne_of_lt (blk_lt BK_g7.out));have NB_g9_g7:=NB_g7_g9.symm;have n11_:=Aside0.mk (below_step HB.out hb);have n12_:=Aside0.mk (blk_below BK_g3.out hb);have n13_:=Aside0.mk (blk_below BK_g6.out hb);have n14_:=Aside0.mk (blk_below BK_g7.out hb);clear HB BK_g3 BK_g6 BK_g7;have HB:=n11_;have BK_g3:=n12_;have BK_g6:=n13_;have BK_g7:=n14_;clear n11_ n12_ n13_ n14_;have BK_g9:=Aside0.mk hbox;clear hbox hb hg;obtain ⟨hx_g9_0,hf_g9_0,hx_g9_1,hf_g9_1,hx_g9_2,hf_g9_2⟩:=cells3 BK_g9.out))
 clear hx_g9_0 hf_g9_0 hx_g9_1 hf_g9_1 hx_g9_2 hf_g9_2
 obtain ⟨w7,hw15_⟩ : ∃ w_ : World,set3 w6 g9 (.int .u64 e) (.slice none 0 0) (.bool false) = w_:=⟨_,rfl⟩
 have n16_:=Aside0.mk (blk3 hw15_ BK_g9.out)
 have n17_:=Aside0.mk (far3 hw15_ NB_g3_g9 BK_g3.out)
 have n18_:=Aside0.mk (far3 hw15_ NB_g6_g9 BK_g6.out)
 have n19_:=Aside0.mk (far3 hw15_ NB_g7_g9 BK_g7.out)
 have n20_:=Aside0.mk (below3 hw15_ GE_g9.out HB.out)
 rw [set3_fold,hw15_]
 clear hw15_ BK_g9 BK_g3 BK_g6 BK_g7 HB
 have BK_g9:=n16_
 have BK_g3:=n17_
 have BK_g6:=n18_
 have BK_g7:=n19_
 have HB:=n20_
 clear n16_ n17_ n18_ n19_ n20_
 obtain ⟨hx_g9_0,hf_g9_0,hx_g9_1,hf_g9_1,hx_g9_2,hf_g9_2⟩:=cells3 BK_g9.out
 go_upto_block 0 with (first
  | ((with_reducible refine gate_dst (N:=10) rfl ?_);refine box_event ?hg (N:=10) ?hd (cs:=#[.int .u64 0]) (t:=24) ?hr ?_;(case hd => rfl);(case hg => rfl);(case hr => first | (go_simp;done) | (go_simp;rfl));intro g10 hg w8 hbox hb;have GE_g10:=Aside0.mk (show w.heap.size ≤ g10 by rw [hg];exact HB.out.size);have NB_g3_g10 : g3 ≠ g10:=(by rw [hg];exact Nat.ne_of_lt (blk_lt BK_g3.out));have NB_g10_g3:=NB_g3_g10.symm;have NB_g6_g10 : g6 ≠ g10:=(by rw [hg];exact Nat.ne_of_lt (blk_lt BK_g6.out));have NB_g10_g6:=NB_g6_g10.symm;have NB_g7_g10 : g7 ≠ g10:=(by rw [hg];exact Nat.ne_of_lt (blk_lt BK_g7.out));have NB_g10_g7:=NB_g7_g10.symm;have NB_g9_g10 : g9 ≠ g10:=(by rw [hg];exact Nat.ne_of_lt (blk_lt BK_g9.out));have NB_g10_g9:=NB_g9_g10.symm;clear hx_g9_0 hf_g9_0 hx_g9_1 hf_g9_1 hx_g9_2 hf_g9_2;have n21_:=Aside0.mk (below_step HB.out hb);have n22_:=Aside0.mk (blk_below BK_g3.out hb);have n23_:=Aside0.mk (blk_below BK_g6.out hb);have n24_:=Aside0.mk (blk_below BK_g7.out hb);have n25_:=Aside0.mk (blk_below BK_g9.out hb);clear HB BK_g3 BK_g6 BK_g7 BK_g9;have HB:=n21_;have BK_g3:=n22_;have BK_g6:=n23_;have BK_g7:=n24_;have BK_g9:=n25_;clear n21_ n22_ n23_ n24_ n25_;have BK_g10:=Aside0.mk hbox;clear hbox hb hg;obtain ⟨hx_g10_0,hf_g10_0⟩:=cells1 BK_g10.out))
 clear hx_g10_0 hf_g10_0
 have n26_ : Aside0 ((w8.setCell ⟨g10,0,none⟩ (.int .u64 e)).heap[g10]? = some (.cells #[.int .u64 e] 24 (0,0))):=⟨blk_put (BK_g10.out) 0 (.int .u64 e) (cs':=#[.int .u64 e]) rfl⟩
 have n27_ : Aside0 ((w8.setCell ⟨g10,0,none⟩ (.int .u64 e)).heap[g3]? = some (.cells #[.int .u64 a0_0,.slice A0_1 l0_1.length c0_1,.slice (some ad) l0_2.length c0_2,.slice A0_3 l0_3.length c0_3,.bool a0_4,.bool a0_5,.bool a0_6] 27 (0,0))):=⟨blk_far (p:=⟨g10,0,none⟩) (BK_g3.out) NB_g3_g10 (.int .u64 e)⟩
 have n28_ : Aside0 ((w8.setCell ⟨g10,0,none⟩ (.int .u64 e)).heap[g6]? = some (.cells #[.int .u64 0,.slice none 0 0,.slice none 0 0,.slice none 0 0,.bool false,.bool false,.bool false] 27 (0,0))):=⟨blk_far (p:=⟨g10,0,none⟩) (BK_g6.out) NB_g6_g10 (.int .u64 e)⟩
 have n29_ : Aside0 ((w8.setCell ⟨g10,0,none⟩ (.int .u64 e)).heap[g7]? = some (.cells #[.int .u64 0,.slice none 0 0,.bool false] 32 (0,0))):=⟨blk_far (p:=⟨g10,0,none⟩) (BK_g7.out) NB_g7_g10 (.int .u64 e)⟩
 have n30_ : Aside0 ((w8.setCell ⟨g10,0,none⟩ (.int .u64 e)).heap[g9]? = some (.cells #[.int .u64 e,.slice none 0 0,.bool false] 32 (0,0))):=⟨blk_far (p:=⟨g10,0,none⟩) (BK_g9.out) NB_g9_g10 (.int .u64 e)⟩
 have n31_ : Aside0 (Below w.heap.size w (w8.setCell ⟨g10,0,none⟩ (.int .u64 e))):=⟨below_set (HB.out) GE_g10.out (j:=0) (v:=.int .u64 e)⟩
 clear BK_g10 BK_g3 BK_g6 BK_g7 BK_g9 HB
 have BK_g10:=n26_
 have BK_g3:=n27_
 have BK_g6:=n28_
 have BK_g7:=n29_
 have BK_g9:=n30_
 have HB:=n31_
 clear n26_ n27_ n28_ n29_ n30_ n31_
 generalize (w8.setCell ⟨g10,0,none⟩ (.int .u64 e)) = w9 at BK_g10 BK_g3 BK_g6 BK_g7 BK_g9 HB ⊢
 obtain ⟨hx_g3_0,hf_g3_0,hx_g3_1,hf_g3_1,hx_g3_2,hf_g3_2,hx_g3_3,hf_g3_3,hx_g3_4,hf_g3_4,hx_g3_5,hf_g3_5,hx_g3_6,hf_g3_6⟩:=cells7 BK_g3.out
 obtain ⟨hx_g9_0,hf_g9_0,hx_g9_1,hf_g9_1,hx_g9_2,hf_g9_2⟩:=cells3 BK_g9.out
 obtain ⟨hx_g10_0,hf_g10_0⟩:=cells1 BK_g10.out
 go_upto_region 6 with fail
 have hxa_:=(HB.out.cell (World.block_lt_of_cell? w _ HXA.out)).trans HXA.out
 have hxb_:=(HB.out.cell (World.block_lt_of_cell? w _ HXB.out)).trans HXB.out
 go_region
 clear hxa_ hxb_
 clear hx_g3_0 hf_g3_0 hx_g3_1 hf_g3_1 hx_g3_2 hf_g3_2 hx_g3_3 hf_g3_3 hx_g3_4 hf_g3_4 hx_g3_5 hf_g3_5 hx_g3_6 hf_g3_6 hx_g9_0 hf_g9_0 hx_g9_1 hf_g9_1 hx_g9_2 hf_g9_2 hx_g10_0 hf_g10_0
 have n32_ : Aside0 ((w9.setCell ⟨g9,0,none⟩ (.int .u64 off)).heap[g9]? = some (.cells #[.int .u64 off,.slice none 0 0,.bool false] 32 (0,0))):=⟨blk_put (BK_g9.out) 0 (.int .u64 off) (cs':=#[.int .u64 off,.slice none 0 0,.bool false]) rfl⟩
 have n33_ : Aside0 ((w9.setCell ⟨g9,0,none⟩ (.int .u64 off)).heap[g3]? = some (.cells #[.int .u64 a0_0,.slice A0_1 l0_1.length c0_1,.slice (some ad) l0_2.length c0_2,.slice A0_3 l0_3.length c0_3,.bool a0_4,.bool a0_5,.bool a0_6] 27 (0,0))):=⟨blk_far (p:=⟨g9,0,none⟩) (BK_g3.out) NB_g3_g9 (.int .u64 off)⟩
 have n34_ : Aside0 ((w9.setCell ⟨g9,0,none⟩ (.int .u64 off)).heap[g6]? = some (.cells #[.int .u64 0,.slice none 0 0,.slice none 0 0,.slice none 0 0,.bool false,.bool false,.bool false] 27 (0,0))):=⟨blk_far (p:=⟨g9,0,none⟩) (BK_g6.out) NB_g6_g9 (.int .u64 off)⟩
 have n35_ : Aside0 ((w9.setCell ⟨g9,0,none⟩ (.int .u64 off)).heap[g7]? = some (.cells #[.int .u64 0,.slice none 0 0,.bool false] 32 (0,0))):=⟨blk_far (p:=⟨g9,0,none⟩) (BK_g7.out) NB_g7_g9 (.int .u64 off)⟩
 have n36_ : Aside0 ((w9.setCell ⟨g9,0,none⟩ (.int .u64 off)).heap[g10]? = some (.cells #[.int .u64 e] 24 (0,0))):=⟨blk_far (p:=⟨g9,0,none⟩) (BK_g10.out) NB_g10_g9 (.int .u64 off)⟩
 have n37_ : Aside0 (Below w.heap.size w (w9.setCell ⟨g9,0,none⟩ (.int .u64 off))):=⟨below_set (HB.out) GE_g9.out (j:=0) (v:=.int .u64 off)⟩
 clear BK_g9 BK_g3 BK_g6 BK_g7 BK_g10 HB
 have BK_g9:=n32_
 have BK_g3:=n33_
 have BK_g6:=n34_
 have BK_g7:=n35_
 have BK_g10:=n36_
 have HB:=n37_
 clear n32_ n33_ n34_ n35_ n36_ n37_
 generalize (w9.setCell ⟨g9,0,none⟩ (.int .u64 off)) = w11 at BK_g9 BK_g3 BK_g6 BK_g7 BK_g10 HB ⊢
 have n38_ : Aside0 ((w11.setCell ⟨g10,0,none⟩ (.int .u64 tq)).heap[g10]? = some (.cells #[.int .u64 tq] 24 (0,0))):=⟨blk_put (BK_g10.out) 0 (.int .u64 tq) (cs':=#[.int .u64 tq]) rfl⟩
 have n39_ : Aside0 ((w11.setCell ⟨g10,0,none⟩ (.int .u64 tq)).heap[g3]? = some (.cells #[.int .u64 a0_0,.slice A0_1 l0_1.length c0_1,.slice (some ad) l0_2.length c0_2,.slice A0_3 l0_3.length c0_3,.bool a0_4,.bool a0_5,.bool a0_6] 27 (0,0))):=⟨blk_far (p:=⟨g10,0,none⟩) (BK_g3.out) NB_g3_g10 (.int .u64 tq)⟩
 have n40_ : Aside0 ((w11.setCell ⟨g10,0,none⟩ (.int .u64 tq)).heap[g6]? = some (.cells #[.int .u64 0,.slice none 0 0,.slice none 0 0,.slice none 0 0,.bool false,.bool false,.bool false] 27 (0,0))):=⟨blk_far (p:=⟨g10,0,none⟩) (BK_g6.out) NB_g6_g10 (.int .u64 tq)⟩
 have n41_ : Aside0 ((w11.setCell ⟨g10,0,none⟩ (.int .u64 tq)).heap[g7]? = some (.cells #[.int .u64 0,.slice none 0 0,.bool false] 32 (0,0))):=⟨blk_far (p:=⟨g10,0,none⟩) (BK_g7.out) NB_g7_g10 (.int .u64 tq)⟩
 have n42_ : Aside0 ((w11.setCell ⟨g10,0,none⟩ (.int .u64 tq)).heap[g9]? = some (.cells #[.int .u64 off,.slice none 0 0,.bool false] 32 (0,0))):=⟨blk_far (p:=⟨g10,0,none⟩) (BK_g9.out) NB_g9_g10 (.int .u64 tq)⟩
 have n43_ : Aside0 (Below w.heap.size w (w11.setCell ⟨g10,0,none⟩ (.int .u64 tq))):=⟨below_set (HB.out) GE_g10.out (j:=0) (v:=.int .u64 tq)⟩
 clear BK_g10 BK_g3 BK_g6 BK_g7 BK_g9 HB
 have BK_g10:=n38_
 have BK_g3:=n39_
 have BK_g6:=n40_
 have BK_g7:=n41_
 have BK_g9:=n42_
 have HB:=n43_
 clear n38_ n39_ n40_ n41_ n42_ n43_
 generalize (w11.setCell ⟨g10,0,none⟩ (.int .u64 tq)) = w12 at BK_g10 BK_g3 BK_g6 BK_g7 BK_g9 HB ⊢
 have n44_:=Aside0.mk (below_drew1 HB.out)
 have n45_:=Aside0.mk (blk_drew BK_g3.out)
 have n46_:=Aside0.mk (blk_drew BK_g6.out)
 have n47_:=Aside0.mk (blk_drew BK_g7.out)
 have n48_:=Aside0.mk (blk_drew BK_g9.out)
 have n49_:=Aside0.mk (blk_drew BK_g10.out)
 clear HB BK_g3 BK_g6 BK_g7 BK_g9 BK_g10
 have HB:=n44_
 have BK_g3:=n45_
 have BK_g6:=n46_
 have BK_g7:=n47_
 have BK_g9:=n48_
 have BK_g10:=n49_
 clear n44_ n45_ n46_ n47_ n48_ n49_
 generalize w12.drew = w12b at HB BK_g3 BK_g6 BK_g7 BK_g9 BK_g10 ⊢
 obtain ⟨hx_g3_0,hf_g3_0,hx_g3_1,hf_g3_1,hx_g3_2,hf_g3_2,hx_g3_3,hf_g3_3,hx_g3_4,hf_g3_4,hx_g3_5,hf_g3_5,hx_g3_6,hf_g3_6⟩:=cells7 BK_g3.out
 obtain ⟨hx_g9_0,hf_g9_0,hx_g9_1,hf_g9_1,hx_g9_2,hf_g9_2⟩:=cells3 BK_g9.out
 obtain ⟨hx_g10_0,hf_g10_0⟩:=cells1 BK_g10.out
 go_upto_region 10 with fail
 clear hx_g3_0 hf_g3_0 hx_g3_1 hf_g3_1 hx_g3_2 hf_g3_2 hx_g3_3 hf_g3_3 hx_g3_4 hf_g3_4 hx_g3_5 hf_g3_5 hx_g3_6 hf_g3_6 hx_g9_0 hf_g9_0 hx_g9_1 hf_g9_1 hx_g9_2 hf_g9_2 hx_g10_0 hf_g10_0
 have n50_ : Aside0 ((w12b.setCell ⟨g10,0,none⟩ (.int .u64 tz)).heap[g10]? = some (.cells #[.int .u64 tz] 24 (0,0))):=⟨blk_put (BK_g10.out) 0 (.int .u64 tz) (cs':=#[.int .u64 tz]) rfl⟩
 have n51_ : Aside0 ((w12b.setCell ⟨g10,0,none⟩ (.int .u64 tz)).heap[g3]? = some (.cells #[.int .u64 a0_0,.slice A0_1 l0_1.length c0_1,.slice (some ad) l0_2.length c0_2,.slice A0_3 l0_3.length c0_3,.bool a0_4,.bool a0_5,.bool a0_6] 27 (0,0))):=⟨blk_far (p:=⟨g10,0,none⟩) (BK_g3.out) NB_g3_g10 (.int .u64 tz)⟩
 have n52_ : Aside0 ((w12b.setCell ⟨g10,0,none⟩ (.int .u64 tz)).heap[g6]? = some (.cells #[.int .u64 0,.slice none 0 0,.slice none 0 0,.slice none 0 0,.bool false,.bool false,.bool false] 27 (0,0))):=⟨blk_far (p:=⟨g10,0,none⟩) (BK_g6.out) NB_g6_g10 (.int .u64 tz)⟩
 have n53_ : Aside0 ((w12b.setCell ⟨g10,0,none⟩ (.int .u64 tz)).heap[g7]? = some (.cells #[.int .u64 0,.slice none 0 0,.bool false] 32 (0,0))):=⟨blk_far (p:=⟨g10,0,none⟩) (BK_g7.out) NB_g7_g10 (.int .u64 tz)⟩
 have n54_ : Aside0 ((w12b.setCell ⟨g10,0,none⟩ (.int .u64 tz)).heap[g9]? = some (.cells #[.int .u64 off,.slice none 0 0,.bool false] 32 (0,0))):=⟨blk_far (p:=⟨g10,0,none⟩) (BK_g9.out) NB_g9_g10 (.int .u64 tz)⟩
 have n55_ : Aside0 (Below w.heap.size w (w12b.setCell ⟨g10,0,none⟩ (.int .u64 tz))):=⟨below_set (HB.out) GE_g10.out (j:=0) (v:=.int .u64 tz)⟩
 clear BK_g10 BK_g3 BK_g6 BK_g7 BK_g9 HB
 have BK_g10:=n50_
 have BK_g3:=n51_
 have BK_g6:=n52_
 have BK_g7:=n53_
 have BK_g9:=n54_
 have HB:=n55_
 clear n50_ n51_ n52_ n53_ n54_ n55_
 generalize (w12b.setCell ⟨g10,0,none⟩ (.int .u64 tz)) = w13 at BK_g10 BK_g3 BK_g6 BK_g7 BK_g9 HB ⊢
 obtain ⟨hx_g3_0,hf_g3_0,hx_g3_1,hf_g3_1,hx_g3_2,hf_g3_2,hx_g3_3,hf_g3_3,hx_g3_4,hf_g3_4,hx_g3_5,hf_g3_5,hx_g3_6,hf_g3_6⟩:=cells7 BK_g3.out
 obtain ⟨hx_g9_0,hf_g9_0,hx_g9_1,hf_g9_1,hx_g9_2,hf_g9_2⟩:=cells3 BK_g9.out
 obtain ⟨hx_g10_0,hf_g10_0⟩:=cells1 BK_g10.out
 go_upto_region 11 with (first
  | ((with_reducible refine gate_callee (f:=22) rfl ?_);refine goesL_ (some 79) rfl rfl Try.func22 (by kernel_rfl) rfl #[.slice Ad y.length (q - p)] rfl (by (try simp only [List.map_toArray,List.map_cons,List.map_nil]);first | done | rfl) ?_;refine (bytes_Clone.calls Ad (q - p) y y _ (Kd.C_below HCD.out HB.out) (by have h_:=HYL.out;omega) (clone_ok_by (by have h_:=HYL.out;have h2_:=HL.out;have h3_:=HPQ.out;omega))).mono ?_;rintro e_ w20 ⟨u_,rfl,ho,hb⟩;refine ⟨_,rfl,?_⟩;have O_cd:=Aside0.mk (Kd.R_lower ho HB.out.size);clear ho;clear hx_g3_0 hf_g3_0 hx_g3_1 hf_g3_1 hx_g3_2 hf_g3_2 hx_g3_3 hf_g3_3 hx_g3_4 hf_g3_4 hx_g3_5 hf_g3_5 hx_g3_6 hf_g3_6 hx_g9_0 hf_g9_0 hx_g9_1 hf_g9_1 hx_g9_2 hf_g9_2 hx_g10_0 hf_g10_0;have n56_:=Aside0.mk (below_step HB.out hb);have n57_:=Aside0.mk (blk_below BK_g3.out hb);have n58_:=Aside0.mk (blk_below BK_g6.out hb);have n59_:=Aside0.mk (blk_below BK_g7.out hb);have n60_:=Aside0.mk (blk_below BK_g9.out hb);have n61_:=Aside0.mk (blk_below BK_g10.out hb);clear HB BK_g3 BK_g6 BK_g7 BK_g9 BK_g10;have HB:=n56_;have BK_g3:=n57_;have BK_g6:=n58_;have BK_g7:=n59_;have BK_g9:=n60_;have BK_g10:=n61_;clear n56_ n57_ n58_ n59_ n60_ n61_;clear hb;obtain ⟨Dy,qy,eo⟩:=Kd.R_slice O_cd.out;subst eo;obtain ⟨hx_g9_0,hf_g9_0,hx_g9_1,hf_g9_1,hx_g9_2,hf_g9_2⟩:=cells3 BK_g9.out;obtain ⟨hx_g3_0,hf_g3_0,hx_g3_1,hf_g3_1,hx_g3_2,hf_g3_2,hx_g3_3,hf_g3_3,hx_g3_4,hf_g3_4,hx_g3_5,hf_g3_5,hx_g3_6,hf_g3_6⟩:=cells7 BK_g3.out;obtain ⟨hx_g10_0,hf_g10_0⟩:=cells1 BK_g10.out))
 clear hx_g9_0 hf_g9_0 hx_g9_1 hf_g9_1 hx_g9_2 hf_g9_2 hx_g3_0 hf_g3_0 hx_g3_1 hf_g3_1 hx_g3_2 hf_g3_2 hx_g3_3 hf_g3_3 hx_g3_4 hf_g3_4 hx_g3_5 hf_g3_5 hx_g3_6 hf_g3_6 hx_g10_0 hf_g10_0
 have n62_ : Aside0 ((w20.setCell ⟨g9,1,none⟩ (.slice Dy y.length qy)).heap[g9]? = some (.cells #[.int .u64 off,.slice Dy y.length qy,.bool false] 32 (0,0))):=⟨blk_put (BK_g9.out) 1 (.slice Dy y.length qy) (cs':=#[.int .u64 off,.slice Dy y.length qy,.bool false]) rfl⟩
 have n63_ : Aside0 ((w20.setCell ⟨g9,1,none⟩ (.slice Dy y.length qy)).heap[g3]? = some (.cells #[.int .u64 a0_0,.slice A0_1 l0_1.length c0_1,.slice (some ad) l0_2.length c0_2,.slice A0_3 l0_3.length c0_3,.bool a0_4,.bool a0_5,.bool a0_6] 27 (0,0))):=⟨blk_far (p:=⟨g9,1,none⟩) (BK_g3.out) NB_g3_g9 (.slice Dy y.length qy)⟩
 have n64_ : Aside0 ((w20.setCell ⟨g9,1,none⟩ (.slice Dy y.length qy)).heap[g6]? = some (.cells #[.int .u64 0,.slice none 0 0,.slice none 0 0,.slice none 0 0,.bool false,.bool false,.bool false] 27 (0,0))):=⟨blk_far (p:=⟨g9,1,none⟩) (BK_g6.out) NB_g6_g9 (.slice Dy y.length qy)⟩
 have n65_ : Aside0 ((w20.setCell ⟨g9,1,none⟩ (.slice Dy y.length qy)).heap[g7]? = some (.cells #[.int .u64 0,.slice none 0 0,.bool false] 32 (0,0))):=⟨blk_far (p:=⟨g9,1,none⟩) (BK_g7.out) NB_g7_g9 (.slice Dy y.length qy)⟩
 have n66_ : Aside0 ((w20.setCell ⟨g9,1,none⟩ (.slice Dy y.length qy)).heap[g10]? = some (.cells #[.int .u64 tz] 24 (0,0))):=⟨blk_far (p:=⟨g9,1,none⟩) (BK_g10.out) NB_g10_g9 (.slice Dy y.length qy)⟩
 have n67_ : Aside0 (Kd.R (Kd.int .u8) 5 (w20.setCell ⟨g9,1,none⟩ (.slice Dy y.length qy)) w.heap.size (fun _ => True) (.slice Dy y.length qy) (y)):=⟨Kd.R_mono (Kd.R_far (p:=⟨g9,1,none⟩) (Kd.R_types O_cd.out BK_g9.out (ne_of rfl (by decide))) (fun _ hk => hk.2) (.slice Dy y.length qy)) (fun _ _ => trivial)⟩
 have n68_ : Aside0 (Below w.heap.size w (w20.setCell ⟨g9,1,none⟩ (.slice Dy y.length qy))):=⟨below_set (HB.out) GE_g9.out (j:=1) (v:=.slice Dy y.length qy)⟩
 clear BK_g9 BK_g3 BK_g6 BK_g7 BK_g10 O_cd HB
 have BK_g9:=n62_
 have BK_g3:=n63_
 have BK_g6:=n64_
 have BK_g7:=n65_
 have BK_g10:=n66_
 have O_cd:=n67_
 have HB:=n68_
 clear n62_ n63_ n64_ n65_ n66_ n67_ n68_
 generalize (w20.setCell ⟨g9,1,none⟩ (.slice Dy y.length qy)) = w21 at BK_g9 BK_g3 BK_g6 BK_g7 BK_g10 O_cd HB ⊢
 have hcf:=HCF.out
 clear HCF
 cases a0_5 with
 | false =>
  have hcg : cf = false:=by rw [hcf];rfl
  subst hcg
  clear hcf
  obtain ⟨hx_g3_0,hf_g3_0,hx_g3_1,hf_g3_1,hx_g3_2,hf_g3_2,hx_g3_3,hf_g3_3,hx_g3_4,hf_g3_4,hx_g3_5,hf_g3_5,hx_g3_6,hf_g3_6⟩:=cells7 BK_g3.out
  obtain ⟨hx_g9_0,hf_g9_0,hx_g9_1,hf_g9_1,hx_g9_2,hf_g9_2⟩:=cells3 BK_g9.out
  obtain ⟨hx_g10_0,hf_g10_0⟩:=cells1 BK_g10.out
  go_region
  clear hx_g3_0 hf_g3_0 hx_g3_1 hf_g3_1 hx_g3_2 hf_g3_2 hx_g3_3 hf_g3_3 hx_g3_4 hf_g3_4 hx_g3_5 hf_g3_5 hx_g3_6 hf_g3_6 hx_g9_0 hf_g9_0 hx_g9_1 hf_g9_1 hx_g9_2 hf_g9_2 hx_g10_0 hf_g10_0
  have n76_ : Aside0 ((w21.setCell ⟨g9,2,none⟩ (.bool false)).heap[g9]? = some (.cells #[.int .u64 off,.slice Dy y.length qy,.bool false] 32 (0,0))):=⟨blk_put (BK_g9.out) 2 (.bool false) (cs':=#[.int .u64 off,.slice Dy y.length qy,.bool false]) rfl⟩
  have n77_ : Aside0 ((w21.setCell ⟨g9,2,none⟩ (.bool false)).heap[g3]? = some (.cells #[.int .u64 a0_0,.slice A0_1 l0_1.length c0_1,.slice (some ad) l0_2.length c0_2,.slice A0_3 l0_3.length c0_3,.bool a0_4,.bool false,.bool a0_6] 27 (0,0))):=⟨blk_far (p:=⟨g9,2,none⟩) (BK_g3.out) NB_g3_g9 (.bool false)⟩
  have n78_ : Aside0 ((w21.setCell ⟨g9,2,none⟩ (.bool false)).heap[g6]? = some (.cells #[.int .u64 0,.slice none 0 0,.slice none 0 0,.slice none 0 0,.bool false,.bool false,.bool false] 27 (0,0))):=⟨blk_far (p:=⟨g9,2,none⟩) (BK_g6.out) NB_g6_g9 (.bool false)⟩
  have n79_ : Aside0 ((w21.setCell ⟨g9,2,none⟩ (.bool false)).heap[g7]? = some (.cells #[.int .u64 0,.slice none 0 0,.bool false] 32 (0,0))):=⟨blk_far (p:=⟨g9,2,none⟩) (BK_g7.out) NB_g7_g9 (.bool false)⟩
  have n80_ : Aside0 ((w21.setCell ⟨g9,2,none⟩ (.bool false)).heap[g10]? = some (.cells #[.int .u64 tz] 24 (0,0))):=⟨blk_far (p:=⟨g9,2,none⟩) (BK_g10.out) NB_g10_g9 (.bool false)⟩
  have n81_ : Aside0 (Kd.R (Kd.int .u8) 5 (w21.setCell ⟨g9,2,none⟩ (.bool false)) w.heap.size (fun _ => True) (.slice Dy y.length qy) (y)):=⟨Kd.R_mono (Kd.R_far (p:=⟨g9,2,none⟩) (Kd.R_types O_cd.out BK_g9.out (ne_of rfl (by decide))) (fun _ hk => hk.2) (.bool false)) (fun _ _ => trivial)⟩
  have n82_ : Aside0 (Below w.heap.size w (w21.setCell ⟨g9,2,none⟩ (.bool false))):=⟨below_set (HB.out) GE_g9.out (j:=2) (v:=.bool false)⟩
  clear BK_g9 BK_g3 BK_g6 BK_g7 BK_g10 O_cd HB
  have BK_g9:=n76_
  have BK_g3:=n77_
  have BK_g6:=n78_
  have BK_g7:=n79_
  have BK_g10:=n80_
  have O_cd:=n81_
  have HB:=n82_
  clear n76_ n77_ n78_ n79_ n80_ n81_ n82_
  generalize (w21.setCell ⟨g9,2,none⟩ (.bool false)) = w23 at BK_g9 BK_g3 BK_g6 BK_g7 BK_g10 O_cd HB ⊢
  have n83_:=Aside0.mk (below_drew1 HB.out)
  have n84_:=Aside0.mk (blk_drew BK_g3.out)
  have n85_:=Aside0.mk (blk_drew BK_g6.out)
  have n86_:=Aside0.mk (blk_drew BK_g7.out)
  have n87_:=Aside0.mk (blk_drew BK_g9.out)
  have n88_:=Aside0.mk (blk_drew BK_g10.out)
  have n89_:=Aside0.mk (Kd.R_drew O_cd.out)
  clear HB BK_g3 BK_g6 BK_g7 BK_g9 BK_g10 O_cd
  have HB:=n83_
  have BK_g3:=n84_
  have BK_g6:=n85_
  have BK_g7:=n86_
  have BK_g9:=n87_
  have BK_g10:=n88_
  have O_cd:=n89_
  clear n83_ n84_ n85_ n86_ n87_ n88_ n89_
  generalize w23.drew = w24 at HB BK_g3 BK_g6 BK_g7 BK_g9 BK_g10 O_cd ⊢
  go_upto_region 12 with fail
  have n90_:=Aside0.mk (below_drew1 HB.out)
  have n91_:=Aside0.mk (blk_drew BK_g3.out)
  have n92_:=Aside0.mk (blk_drew BK_g6.out)
  have n93_:=Aside0.mk (blk_drew BK_g7.out)
  have n94_:=Aside0.mk (blk_drew BK_g9.out)
  have n95_:=Aside0.mk (blk_drew BK_g10.out)
  have n96_:=Aside0.mk (Kd.R_drew O_cd.out)
  clear HB BK_g3 BK_g6 BK_g7 BK_g9 BK_g10 O_cd
  have HB:=n90_
  have BK_g3:=n91_
  have BK_g6:=n92_
  have BK_g7:=n93_
  have BK_g9:=n94_
  have BK_g10:=n95_
  have O_cd:=n96_
  clear n90_ n91_ n92_ n93_ n94_ n95_ n96_
  (try simp only [Act.put,List.setIfInBounds_toArray,List.set_cons_zero,List.set_cons_succ])
  refine start_ (n:=7) (S:=fun w' => w'.cell? ⟨g3,0,none⟩ = some (.int .u64 a0_0) ∧ w'.cell? ⟨g3,1,none⟩ = some (.slice A0_1 l0_1.length c0_1) ∧ w'.cell? ⟨g3,2,none⟩ = some (.slice (some ad) l0_2.length c0_2) ∧ w'.cell? ⟨g3,3,none⟩ = some (.slice A0_3 l0_3.length c0_3) ∧ w'.cell? ⟨g3,4,none⟩ = some (.bool a0_4) ∧ w'.cell? ⟨g3,5,none⟩ = some (.bool false) ∧ w'.cell? ⟨g3,6,none⟩ = some (.bool a0_6) ∧ w'.cell? ⟨g9,0,none⟩ = some (.int .u64 off) ∧ w'.cell? ⟨g9,1,none⟩ = some (.slice Dy y.length qy) ∧ w'.cell? ⟨g9,2,none⟩ = some (.bool false)) (ds:=[5]) #[false,false,false,false,false,false,false] (by kernel_rfl) rfl rfl ⟨(blk_cell BK_g3.out 0).trans rfl,(blk_cell BK_g3.out 1).trans rfl,(blk_cell BK_g3.out 2).trans rfl,(blk_cell BK_g3.out 3).trans rfl,(blk_cell BK_g3.out 4).trans rfl,(blk_cell BK_g3.out 5).trans rfl,(blk_cell BK_g3.out 6).trans rfl,(blk_cell BK_g9.out 0).trans rfl,(blk_cell BK_g9.out 1).trans rfl,(blk_cell BK_g9.out 2).trans rfl⟩ (fun hHeld => ?_)
  generalize w24.drew = w25 at HB BK_g3 BK_g6 BK_g7 BK_g9 BK_g10 O_cd hHeld ⊢
  have HLT:=Aside0.mk (Kd.R_lt O_cd.out)
  refine pure_ (i:=1) (N:=some 91) (v:=?_) (a':=?_) #[false,true,false,false,false,false,false] rfl rfl (by kernel_rfl) (fun _ _ _ h => h) (Or.inl ⟨by rfl,?_⟩) ?_ ?_
  rotate_left
  ·intro w'
   go_simp
   with_reducible rfl
  rotate_left
  ·simp only [Act.put,List.setIfInBounds_toArray,List.set_cons_zero,List.set_cons_succ,i64_w,i32_w]
   rfl
  refine take_ (i:=0) (N:=some 90) (v:=?_) (a':=?_) #[true,true,false,false,false,false,false] rfl rfl (by kernel_rfl) (fun _ _ _ h => h) (Or.inl ⟨by rfl,?_⟩) hHeld ?_ ?_
  rotate_left
  ·rintro w' ⟨s0,s1,s2,s3,s4,s5,s6,s7,s8,s9⟩
   go_simp
   with_reducible rfl
  rotate_left
  ·simp only [Act.put,List.setIfInBounds_toArray,List.set_cons_zero,List.set_cons_succ,i64_w,i32_w]
   rfl
  refine take_ (i:=3) (N:=some 93) (v:=?_) (a':=?_) #[true,true,false,true,false,false,false] rfl rfl (by kernel_rfl) (fun _ _ _ h => h) (Or.inl ⟨by rfl,?_⟩) hHeld ?_ ?_
  rotate_left
  ·rintro w' ⟨s0,s1,s2,s3,s4,s5,s6,s7,s8,s9⟩
   go_simp
   with_reducible rfl
  rotate_left
  ·simp only [Act.put,List.setIfInBounds_toArray,List.set_cons_zero,List.set_cons_succ,i64_w,i32_w]
   rfl
  refine one_ (i:=2) (N:=some 92) #[true,true,true,true,false,false,false] rfl rfl (by kernel_rfl) (by decide) (fun K hK => ?_)
  refine goes_ Try.func19 (by kernel_rfl) rfl #[.agg #[.int .u64 a0_0,.slice A0_1 l0_1.length c0_1,.slice (some ad) l0_2.length c0_2,.slice A0_3 l0_3.length c0_3,.bool a0_4,.bool false,.bool a0_6],.func (.func 23) #[] #[.pointer (some ⟨g9,0,none⟩),.pointer (some ⟨g10,0,none⟩)]] (by rfl) rfl rfl (by (try simp only [List.map_toArray,List.map_cons,List.map_nil]);first | done | rfl) ?_
  refine (supply_changed.hand (fun W_ x0 y1 y2 y3 y4 y5 y6 => a0_0 = x0 ∧ a0_4 = y4 ∧ f5 = y5 ∧ a0_6 = y6 ∧ Kd.R (Kd.int .u8) 5 W_ w25.heap.size (fun _ => True) y1 l0_1 ∧ Kd.R k37 37 W_ w25.heap.size (fun _ => True) y2 t2 ∧ Kd.R k37 37 W_ w25.heap.size (fun _ => True) y3 l0_3) a0_0 _ _ l0_1 _ _ l0_2 _ _ l0_3 a0_4 false a0_6 23 _ #[.pointer (some ⟨g9,0,none⟩),.pointer (some ⟨g10,0,none⟩)] w25 (by rintro W_ g_ cs_ b0 b1 b2 b3 b4 b5 b6 x0 y1 y2 y3 y4 y5 y6 hb_ ⟨rfl,rfl,rfl,rfl,h1,h2,h3⟩;exact ⟨rfl,rfl,rfl,rfl,R_set7 h1 hb_ (ne_of rfl (by decide)),R_set7 h2 hb_ (ne_of rfl (by decide)),R_set7 h3 hb_ (ne_of rfl (by decide))⟩) Try.func23 (by kernel_rfl) rfl (Kd.C_below HR1.out HB.out) HC1.out (Kd.C_below HR2.out HB.out) HC2.out (Kd.C_below HR3.out HB.out) HC3.out HL.out.1 HL.out.2.1 HL.out.2.2.1 (fun g_ g4_ cs4_ v1_ v2_ v3_ W_ hb_ hb4_ hne_ hge_ hr1_ hr2_ hr3_ hB_ => Calls.mono (supply_Next_1.hand g9 g10 (.slice Dy y.length qy) off tz false t2 a0_0 l0_1 l0_2 l0_3 v1_ v2_ v3_ a0_4 false a0_6 g_ g4_ cs4_ w25 W_ hb_ hb4_ hne_ hge_ hr1_ hr2_ hr3_ hB_ (blk_below BK_g9.out hB_) (blk_below BK_g10.out hB_) HT.out) (by rintro e_ W2_ ⟨rfl,u2_,hb2_,hb42_,q1_,q2_,q3_,hB2_⟩;obtain ⟨X1,Y1,z1⟩:=Kd.R_slice q1_;obtain ⟨X2,Y2,z2⟩:=Kd.R_slice q2_;obtain ⟨X3,Y3,z3⟩:=Kd.R_slice q3_;subst z1 z2 z3;exact ⟨rfl,_,_,_,_,_,_,_,_,_,_,_,_,_,hb2_,hb42_,⟨rfl,rfl,HF5.out.symm,rfl,q1_,q2_,q3_⟩,hB2_⟩))).mono ?_
  rintro e_ w26 ⟨x0,B1,p1,q1,B2,p2,q2,B3,p3,q3,y4,y5,y6,rfl,⟨rfl,rfl,rfl,rfl,h1,h2,h3⟩,hb⟩
  refine ⟨_,rfl,?_⟩
  have hsz_:=HB.out.size
  have F1:=Aside0.mk h1
  have F2:=Aside0.mk h2
  have F3:=Aside0.mk h3
  have HSZ:=Aside0.mk hsz_
  clear h1 h2 h3 hsz_
  have n97_:=Aside0.mk (below_step HB.out hb)
  have n98_:=Aside0.mk (blk_below BK_g3.out hb)
  have n99_:=Aside0.mk (blk_below BK_g6.out hb)
  have n100_:=Aside0.mk (blk_below BK_g7.out hb)
  have n101_:=Aside0.mk (blk_below BK_g9.out hb)
  have n102_:=Aside0.mk (blk_below BK_g10.out hb)
  have n103_:=Aside0.mk (Kd.R_below O_cd.out hb)
  clear HB BK_g3 BK_g6 BK_g7 BK_g9 BK_g10 O_cd
  have HB:=n97_
  have BK_g3:=n98_
  have BK_g6:=n99_
  have BK_g7:=n100_
  have BK_g9:=n101_
  have BK_g10:=n102_
  have O_cd:=n103_
  clear n97_ n98_ n99_ n100_ n101_ n102_ n103_
  clear hb
  obtain ⟨hx_g6_0,hf_g6_0,hx_g6_1,hf_g6_1,hx_g6_2,hf_g6_2,hx_g6_3,hf_g6_3,hx_g6_4,hf_g6_4,hx_g6_5,hf_g6_5,hx_g6_6,hf_g6_6⟩:=cells7 BK_g6.out
  obtain ⟨hx_g7_0,hf_g7_0,hx_g7_1,hf_g7_1,hx_g7_2,hf_g7_2⟩:=cells3 BK_g7.out
  obtain ⟨hx_g9_0,hf_g9_0,hx_g9_1,hf_g9_1,hx_g9_2,hf_g9_2⟩:=cells3 BK_g9.out
  obtain ⟨hx_g3_0,hf_g3_0,hx_g3_1,hf_g3_1,hx_g3_2,hf_g3_2,hx_g3_3,hf_g3_3,hx_g3_4,hf_g3_4,hx_g3_5,hf_g3_5,hx_g3_6,hf_g3_6⟩:=cells7 BK_g3.out
  refine hK.out _ _ ⟨(blk_cell BK_g3.out 0).trans rfl,(blk_cell BK_g3.out 1).trans rfl,(blk_cell BK_g3.out 2).trans rfl,(blk_cell BK_g3.out 3).trans rfl,(blk_cell BK_g3.out 4).trans rfl,(blk_cell BK_g3.out 5).trans rfl,(blk_cell BK_g3.out 6).trans rfl,(blk_cell BK_g9.out 0).trans rfl,(blk_cell BK_g9.out 1).trans rfl,(blk_cell BK_g9.out 2).trans rfl⟩ (fun hHeld => ?_)
  clear hK K
  refine norm_ (a':=?_) ?_ ?_
  rotate_left
  ·show Act.put _ (some 92) _ = _
   simp only [Act.put,List.setIfInBounds_toArray,List.set_cons_zero,List.set_cons_succ,i64_w,i32_w]
   rfl
  refine one_ (i:=4) (N:=none) #[true,true,true,true,true,false,false] rfl rfl (by kernel_rfl) (by decide) (fun K hK => ?_)
  refine skip_ (w1:=?_) (by rfl) rfl ?_ ?_
  rotate_left
  ·go_simp
   rfl
  clear hx_g6_0 hf_g6_0 hx_g6_1 hf_g6_1 hx_g6_2 hf_g6_2 hx_g6_3 hf_g6_3 hx_g6_4 hf_g6_4 hx_g6_5 hf_g6_5 hx_g6_6 hf_g6_6 hx_g7_0 hf_g7_0 hx_g7_1 hf_g7_1 hx_g7_2 hf_g7_2 hx_g9_0 hf_g9_0 hx_g9_1 hf_g9_1 hx_g9_2 hf_g9_2 hx_g3_0 hf_g3_0 hx_g3_1 hf_g3_1 hx_g3_2 hf_g3_2 hx_g3_3 hf_g3_3 hx_g3_4 hf_g3_4 hx_g3_5 hf_g3_5 hx_g3_6 hf_g3_6
  obtain ⟨w27,hw104_⟩ : ∃ w_ : World,set7 w26 g6 (.int .u64 a0_0) (.slice B1 p1 q1) (.slice B2 p2 q2) (.slice B3 p3 q3) (.bool a0_4) (.bool f5) (.bool a0_6) = w_:=⟨_,rfl⟩
  have n105_:=Aside0.mk (blk7 hw104_ BK_g6.out)
  have n106_:=Aside0.mk (far7 hw104_ NB_g3_g6 BK_g3.out)
  have n107_:=Aside0.mk (far7 hw104_ NB_g7_g6 BK_g7.out)
  have n108_:=Aside0.mk (far7 hw104_ NB_g9_g6 BK_g9.out)
  have n109_:=Aside0.mk (far7 hw104_ NB_g10_g6 BK_g10.out)
  have n110_:=Aside0.mk (R7 hw104_ BK_g6.out rfl (by decide) O_cd.out)
  have n111_:=Aside0.mk (R7 hw104_ BK_g6.out rfl (by decide) F1.out)
  have n112_:=Aside0.mk (R7 hw104_ BK_g6.out rfl (by decide) F2.out)
  have n113_:=Aside0.mk (R7 hw104_ BK_g6.out rfl (by decide) F3.out)
  have n114_:=Aside0.mk (below7 hw104_ GE_g6.out HB.out)
  rw [set7_fold,hw104_]
  clear hw104_ BK_g6 BK_g3 BK_g7 BK_g9 BK_g10 O_cd F1 F2 F3 HB
  have BK_g6:=n105_
  have BK_g3:=n106_
  have BK_g7:=n107_
  have BK_g9:=n108_
  have BK_g10:=n109_
  have O_cd:=n110_
  have F1:=n111_
  have F2:=n112_
  have F3:=n113_
  have HB:=n114_
  clear n105_ n106_ n107_ n108_ n109_ n110_ n111_ n112_ n113_ n114_
  obtain ⟨hx_g7_0,hf_g7_0,hx_g7_1,hf_g7_1,hx_g7_2,hf_g7_2⟩:=cells3 BK_g7.out
  refine hK.out _ _ ⟨(blk_cell BK_g3.out 0).trans rfl,(blk_cell BK_g3.out 1).trans rfl,(blk_cell BK_g3.out 2).trans rfl,(blk_cell BK_g3.out 3).trans rfl,(blk_cell BK_g3.out 4).trans rfl,(blk_cell BK_g3.out 5).trans rfl,(blk_cell BK_g3.out 6).trans rfl,(blk_cell BK_g9.out 0).trans rfl,(blk_cell BK_g9.out 1).trans rfl,(blk_cell BK_g9.out 2).trans rfl⟩ (fun hHeld => ?_)
  clear hK K
  refine last_ (i:=5) (N:=none) #[true,true,true,true,true,true,false] rfl rfl (by kernel_rfl) (by decide) (fun K hK => ?_)
  refine skip_ (w1:=?_) (by rfl) rfl ?_ ?_
  rotate_left
  ·go_simp
   rfl
  refine hK.out _ _ ?_
  clear hK K
  refine pure_ (i:=6) (N:=some 8) (v:=?_) (a':=?_) #[true,true,true,true,true,true,true] rfl rfl (by kernel_rfl) (fun _ _ _ h => h) (Or.inl ⟨by rfl,?_⟩) ?_ ?_
  rotate_left
  ·intro w'
   go_simp
   with_reducible rfl
  rotate_left
  ·simp only [Act.put,List.setIfInBounds_toArray,List.set_cons_zero,List.set_cons_succ,i64_w,i32_w]
   rfl
  refine done_ (by kernel_rfl) ?_
  go_wp2
  refine bodyPost_ret (results_list (rs:=[.cell 6 27,.cell 7 32,.tmp 8]) rfl (by simp) (.cell g6 27 #[.int .u64 a0_0,.slice B1 p1 q1,.slice B2 p2 q2,.slice B3 p3 q3,.bool a0_4,.bool f5,.bool a0_6] (0,0) _ rfl (blk_far (p:=⟨g7,2,none⟩) (blk_far (p:=⟨g7,1,none⟩) (blk_far (p:=⟨g7,0,none⟩) (BK_g6.out) NB_g6_g7 (.int .u64 off)) NB_g6_g7 (.slice Dy y.length qy)) NB_g6_g7 (.bool false)) Try.underlying27 rfl (by kernel_rfl) (.cell g7 32 #[.int .u64 off,.slice Dy y.length qy,.bool false] (0,0) _ rfl (blk_put (blk_put (blk_put (BK_g7.out) 0 (.int .u64 off) (cs':=#[.int .u64 off,.slice none 0 0,.bool false]) rfl) 1 (.slice Dy y.length qy) (cs':=#[.int .u64 off,.slice Dy y.length qy,.bool false]) rfl) 2 (.bool false) (cs':=#[.int .u64 off,.slice Dy y.length qy,.bool false]) rfl) Try.underlying32 rfl (by kernel_rfl) (.tmp .nil)))) rfl ?_
  exact ⟨_,_,_,_,rfl,Kd.R_mono (Kd.R_lower (Kd.R_bound (Kd.R_mono (Kd.R_far (p:=⟨g7,2,none⟩) (Kd.R_far (p:=⟨g7,1,none⟩) (Kd.R_far (p:=⟨g7,0,none⟩) (Kd.R_types F1.out BK_g7.out (ne_of rfl (by decide))) (fun _ hk => hk.2) (.int .u64 off)) (fun _ hk => hk.2) (.slice Dy y.length qy)) (fun _ hk => hk.2) (.bool false)) (fun _ _ => trivial))) HSZ.out) (fun k hk => fun he_ => Nat.lt_irrefl _ (Nat.lt_of_lt_of_le (HLT.out k he_.symm) hk.2.1)),Kd.R_mono (Kd.R_lower (Kd.R_bound (Kd.R_mono (Kd.R_far (p:=⟨g7,2,none⟩) (Kd.R_far (p:=⟨g7,1,none⟩) (Kd.R_far (p:=⟨g7,0,none⟩) (Kd.R_types F2.out BK_g7.out (ne_of rfl (by decide))) (fun _ hk => hk.2) (.int .u64 off)) (fun _ hk => hk.2) (.slice Dy y.length qy)) (fun _ hk => hk.2) (.bool false)) (fun _ _ => trivial))) HSZ.out) (fun k hk => fun he_ => Nat.lt_irrefl _ (Nat.lt_of_lt_of_le (HLT.out k he_.symm) hk.2.1)),Kd.R_mono (Kd.R_lower (Kd.R_bound (Kd.R_mono (Kd.R_far (p:=⟨g7,2,none⟩) (Kd.R_far (p:=⟨g7,1,none⟩) (Kd.R_far (p:=⟨g7,0,none⟩) (Kd.R_types F3.out BK_g7.out (ne_of rfl (by decide))) (fun _ hk => hk.2) (.int .u64 off)) (fun _ hk => hk.2) (.slice Dy y.length qy)) (fun _ hk => hk.2) (.bool false)) (fun _ _ => trivial))) HSZ.out) (fun k hk => fun he_ => Nat.lt_irrefl _ (Nat.lt_of_lt_of_le (HLT.out k he_.symm) hk.2.1)),Kd.R_mono (Kd.R_far (p:=⟨g7,2,none⟩) (Kd.R_far (p:=⟨g7,1,none⟩) (Kd.R_far (p:=⟨g7,0,none⟩) (Kd.R_types O_cd.out BK_g7.out (ne_of rfl (by decide))) (fun _ hk => hk.2) (.int .u64 off)) (fun _ hk => hk.2) (.slice Dy y.length qy)) (fun _ hk => hk.2) (.bool false)) (fun _ _ => trivial),below_set (below_set (below_set (HB.out) GE_g7.out (j:=0) (v:=.int .u64 off)) GE_g7.out (j:=1) (v:=.slice Dy y.length qy)) GE_g7.out (j:=2) (v:=.bool false)⟩
 | true =>
  have hcf_ : (tz == e) = cf:=by rw [hcf];simp
  clear hcf
  have n69_:=Aside0.mk (below_drew1 HB.out)
  have n70_:=Aside0.mk (blk_drew BK_g3.out)
  have n71_:=Aside0.mk (blk_drew BK_g6.out)
  have n72_:=Aside0.mk (blk_drew BK_g7.out)
  have n73_:=Aside0.mk (blk_drew BK_g9.out)
  have n74_:=Aside0.mk (blk_drew BK_g10.out)
  have n75_:=Aside0.mk (Kd.R_drew O_cd.out)
  clear HB BK_g3 BK_g6 BK_g7 BK_g9 BK_g10 O_cd
  have HB:=n69_
  have BK_g3:=n70_
  have BK_g6:=n71_
  have BK_g7:=n72_
  have BK_g9:=n73_
  have BK_g10:=n74_
  have O_cd:=n75_
  clear n69_ n70_ n71_ n72_ n73_ n74_ n75_
  (try simp only [Act.put,List.setIfInBounds_toArray,List.set_cons_zero,List.set_cons_succ])
  refine start_ (n:=10) (S:=fun w' => w'.cell? ⟨g3,0,none⟩ = some (.int .u64 a0_0) ∧ w'.cell? ⟨g3,1,none⟩ = some (.slice A0_1 l0_1.length c0_1) ∧ w'.cell? ⟨g3,2,none⟩ = some (.slice (some ad) l0_2.length c0_2) ∧ w'.cell? ⟨g3,3,none⟩ = some (.slice A0_3 l0_3.length c0_3) ∧ w'.cell? ⟨g3,4,none⟩ = some (.bool a0_4) ∧ w'.cell? ⟨g3,5,none⟩ = some (.bool true) ∧ w'.cell? ⟨g3,6,none⟩ = some (.bool a0_6) ∧ w'.cell? ⟨g10,0,none⟩ = some (.int .u64 tz)) (ds:=[9]) #[false,false,false,false,false,false,false,false,false,false] (by kernel_rfl) rfl rfl ⟨(blk_cell BK_g3.out 0).trans rfl,(blk_cell BK_g3.out 1).trans rfl,(blk_cell BK_g3.out 2).trans rfl,(blk_cell BK_g3.out 3).trans rfl,(blk_cell BK_g3.out 4).trans rfl,(blk_cell BK_g3.out 5).trans rfl,(blk_cell BK_g3.out 6).trans rfl,(blk_cell BK_g10.out 0).trans rfl⟩ (fun hHeld => ?_)
  generalize w21.drew = w22 at HB BK_g3 BK_g6 BK_g7 BK_g9 BK_g10 O_cd hHeld ⊢
  refine pure_ (i:=0) (N:=some 81) (v:=?_) (a':=?_) #[true,false,false,false,false,false,false,false,false,false] rfl rfl (by kernel_rfl) (fun _ _ _ h => h) (Or.inl ⟨by rfl,?_⟩) ?_ ?_
  rotate_left
  ·intro w'
   go_simp
   with_reducible rfl
  rotate_left
  ·simp only [Act.put,List.setIfInBounds_toArray,List.set_cons_zero,List.set_cons_succ,i64_w,i32_w]
   rfl
  refine take_ (i:=1) (N:=some 82) (v:=?_) (a':=?_) #[true,true,false,false,false,false,false,false,false,false] rfl rfl (by kernel_rfl) (fun _ _ _ h => h) (Or.inl ⟨by rfl,?_⟩) hHeld ?_ ?_
  rotate_left
  ·rintro w' ⟨s0,s1,s2,s3,s4,s5,s6,s7⟩
   go_simp
   with_reducible rfl
  rotate_left
  ·simp only [Act.put,List.setIfInBounds_toArray,List.set_cons_zero,List.set_cons_succ,i64_w,i32_w]
   rfl
  refine pure_ (i:=2) (N:=some 83) (v:=?_) (a':=?_) #[true,true,true,false,false,false,false,false,false,false] rfl rfl (by kernel_rfl) (fun _ _ _ h => h) (Or.inl ⟨by rfl,?_⟩) ?_ ?_
  rotate_left
  ·intro w'
   go_simp
   with_reducible rfl
  rotate_left
  ·simp only [Act.put,List.setIfInBounds_toArray,List.set_cons_zero,List.set_cons_succ,i64_w,i32_w]
   rfl
  refine take_ (i:=3) (N:=some 84) (v:=?_) (a':=?_) #[true,true,true,true,false,false,false,false,false,false] rfl rfl (by kernel_rfl) (fun _ _ _ h => h) (Or.inl ⟨by rfl,?_⟩) hHeld ?_ ?_
  rotate_left
  ·rintro w' ⟨s0,s1,s2,s3,s4,s5,s6,s7⟩
   go_simp
   with_reducible rfl
  rotate_left
  ·simp only [Act.put,List.setIfInBounds_toArray,List.set_cons_zero,List.set_cons_succ,i64_w,i32_w]
   rfl
  refine take_ (i:=4) (N:=some 85) (v:=?_) (a':=?_) #[true,true,true,true,true,false,false,false,false,false] rfl rfl (by kernel_rfl) (fun _ _ _ h => h) (Or.inl ⟨by rfl,?_⟩) hHeld ?_ ?_
  rotate_left
  ·rintro w' ⟨s0,s1,s2,s3,s4,s5,s6,s7⟩
   go_simp
   with_reducible rfl
  rotate_left
  ·simp only [Act.put,List.setIfInBounds_toArray,List.set_cons_zero,List.set_cons_succ,i64_w,i32_w]
   rfl
  refine one_ (i:=5) (N:=some 86) #[true,true,true,true,true,true,false,false,false,false] rfl rfl (by kernel_rfl) (by decide) (fun K hK => ?_)
  refine goes_ Try.func15 (by kernel_rfl) rfl #[.agg #[.int .u64 a0_0,.slice A0_1 l0_1.length c0_1,.slice (some ad) l0_2.length c0_2,.slice A0_3 l0_3.length c0_3,.bool a0_4,.bool true,.bool a0_6]] (by rfl) rfl rfl (by (try simp only [List.map_toArray,List.map_cons,List.map_nil]);first | done | rfl) ?_
  refine (supply_End.calls a0_0 _ _ l0_1 _ _ l0_2 _ _ l0_3 a0_4 true a0_6 e _ (Kd.C_below HR1.out HB.out) HC1.out (Kd.C_below HR2.out HB.out) HC2.out (Kd.C_below HR3.out HB.out) HC3.out (by unfold supply_End.f;rw [HV.out])).mono ?_
  rintro e_ w23 ⟨rfl,hb⟩
  refine ⟨_,rfl,?_⟩
  have n76_:=Aside0.mk (below_step HB.out hb)
  have n77_:=Aside0.mk (blk_below BK_g3.out hb)
  have n78_:=Aside0.mk (blk_below BK_g6.out hb)
  have n79_:=Aside0.mk (blk_below BK_g7.out hb)
  have n80_:=Aside0.mk (blk_below BK_g9.out hb)
  have n81_:=Aside0.mk (blk_below BK_g10.out hb)
  have n82_:=Aside0.mk (Kd.R_below O_cd.out hb)
  clear HB BK_g3 BK_g6 BK_g7 BK_g9 BK_g10 O_cd
  have HB:=n76_
  have BK_g3:=n77_
  have BK_g6:=n78_
  have BK_g7:=n79_
  have BK_g9:=n80_
  have BK_g10:=n81_
  have O_cd:=n82_
  clear n76_ n77_ n78_ n79_ n80_ n81_ n82_
  clear hb
  obtain ⟨hx_g9_0,hf_g9_0,hx_g9_1,hf_g9_1,hx_g9_2,hf_g9_2⟩:=cells3 BK_g9.out
  refine hK.out _ _ ⟨(blk_cell BK_g3.out 0).trans rfl,(blk_cell BK_g3.out 1).trans rfl,(blk_cell BK_g3.out 2).trans rfl,(blk_cell BK_g3.out 3).trans rfl,(blk_cell BK_g3.out 4).trans rfl,(blk_cell BK_g3.out 5).trans rfl,(blk_cell BK_g3.out 6).trans rfl,(blk_cell BK_g10.out 0).trans rfl⟩ (fun hHeld => ?_)
  clear hK K
  refine norm_ (a':=?_) ?_ ?_
  rotate_left
  ·show Act.put _ (some 86) _ = _
   simp only [Act.put,List.setIfInBounds_toArray,List.set_cons_zero,List.set_cons_succ,i64_w,i32_w]
   rfl
  refine pure_ (i:=6) (N:=some 87) (v:=?_) (a':=?_) #[true,true,true,true,true,true,true,false,false,false] rfl rfl (by kernel_rfl) (fun _ _ _ h => h) (Or.inl ⟨by rfl,?_⟩) ?_ ?_
  rotate_left
  ·intro w'
   go_simp
   with_reducible rfl
  rotate_left
  ·simp only [Act.put,List.setIfInBounds_toArray,List.set_cons_zero,List.set_cons_succ,i64_w,i32_w]
   rfl
  refine pure_ (i:=7) (N:=some 88) (v:=?_) (a':=?_) #[true,true,true,true,true,true,true,true,false,false] rfl rfl (by kernel_rfl) (fun _ _ _ h => h) (Or.inl ⟨by rfl,?_⟩) ?_ ?_
  rotate_left
  ·intro w'
   go_simp
   with_reducible rfl
  rotate_left
  ·simp only [Act.put,List.setIfInBounds_toArray,List.set_cons_zero,List.set_cons_succ,i64_w,i32_w]
   rfl
  refine pure_ (i:=8) (N:=some 89) (v:=?_) (a':=?_) #[true,true,true,true,true,true,true,true,true,false] rfl rfl (by kernel_rfl) (fun _ _ _ h => h) (Or.inl ⟨by rfl,?_⟩) ?_ ?_
  rotate_left
  ·intro w'
   go_simp
   with_reducible rfl
  rotate_left
  ·simp only [Act.put,List.setIfInBounds_toArray,List.set_cons_zero,List.set_cons_succ,i64_w,i32_w]
   rfl
  refine last_ (i:=9) (N:=none) #[true,true,true,true,true,true,true,true,true,true] rfl rfl (by kernel_rfl) (by decide) (fun K hK => ?_)
  refine skip_ (w1:=?_) (by rfl) rfl ?_ ?_
  rotate_left
  ·go_simp
   rfl
  refine hK.out _ _ ?_
  clear hK K
  refine done_ (by kernel_rfl) ?_
  clear hx_g9_0 hf_g9_0 hx_g9_1 hf_g9_1 hx_g9_2 hf_g9_2
  have n83_ : Aside0 ((w23.setCell ⟨g9,2,none⟩ (.bool cf)).heap[g9]? = some (.cells #[.int .u64 off,.slice Dy y.length qy,.bool cf] 32 (0,0))):=⟨blk_put (BK_g9.out) 2 (.bool cf) (cs':=#[.int .u64 off,.slice Dy y.length qy,.bool cf]) rfl⟩
  have n84_ : Aside0 ((w23.setCell ⟨g9,2,none⟩ (.bool cf)).heap[g3]? = some (.cells #[.int .u64 a0_0,.slice A0_1 l0_1.length c0_1,.slice (some ad) l0_2.length c0_2,.slice A0_3 l0_3.length c0_3,.bool a0_4,.bool true,.bool a0_6] 27 (0,0))):=⟨blk_far (p:=⟨g9,2,none⟩) (BK_g3.out) NB_g3_g9 (.bool cf)⟩
  have n85_ : Aside0 ((w23.setCell ⟨g9,2,none⟩ (.bool cf)).heap[g6]? = some (.cells #[.int .u64 0,.slice none 0 0,.slice none 0 0,.slice none 0 0,.bool false,.bool false,.bool false] 27 (0,0))):=⟨blk_far (p:=⟨g9,2,none⟩) (BK_g6.out) NB_g6_g9 (.bool cf)⟩
  have n86_ : Aside0 ((w23.setCell ⟨g9,2,none⟩ (.bool cf)).heap[g7]? = some (.cells #[.int .u64 0,.slice none 0 0,.bool false] 32 (0,0))):=⟨blk_far (p:=⟨g9,2,none⟩) (BK_g7.out) NB_g7_g9 (.bool cf)⟩
  have n87_ : Aside0 ((w23.setCell ⟨g9,2,none⟩ (.bool cf)).heap[g10]? = some (.cells #[.int .u64 tz] 24 (0,0))):=⟨blk_far (p:=⟨g9,2,none⟩) (BK_g10.out) NB_g10_g9 (.bool cf)⟩
  have n88_ : Aside0 (Kd.R (Kd.int .u8) 5 (w23.setCell ⟨g9,2,none⟩ (.bool cf)) w.heap.size (fun _ => True) (.slice Dy y.length qy) (y)):=⟨Kd.R_mono (Kd.R_far (p:=⟨g9,2,none⟩) (Kd.R_types O_cd.out BK_g9.out (ne_of rfl (by decide))) (fun _ hk => hk.2) (.bool cf)) (fun _ _ => trivial)⟩
  have n89_ : Aside0 (Below w.heap.size w (w23.setCell ⟨g9,2,none⟩ (.bool cf))):=⟨below_set (HB.out) GE_g9.out (j:=2) (v:=.bool cf)⟩
  clear BK_g9 BK_g3 BK_g6 BK_g7 BK_g10 O_cd HB
  have BK_g9:=n83_
  have BK_g3:=n84_
  have BK_g6:=n85_
  have BK_g7:=n86_
  have BK_g10:=n87_
  have O_cd:=n88_
  have HB:=n89_
  clear n83_ n84_ n85_ n86_ n87_ n88_ n89_
  generalize (w23.setCell ⟨g9,2,none⟩ (.bool cf)) = w24 at BK_g9 BK_g3 BK_g6 BK_g7 BK_g10 O_cd HB ⊢
  go_upto_region 12 with fail
  have n90_:=Aside0.mk (below_drew1 HB.out)
  have n91_:=Aside0.mk (blk_drew BK_g3.out)
  have n92_:=Aside0.mk (blk_drew BK_g6.out)
  have n93_:=Aside0.mk (blk_drew BK_g7.out)
  have n94_:=Aside0.mk (blk_drew BK_g9.out)
  have n95_:=Aside0.mk (blk_drew BK_g10.out)
  have n96_:=Aside0.mk (Kd.R_drew O_cd.out)
  clear HB BK_g3 BK_g6 BK_g7 BK_g9 BK_g10 O_cd
  have HB:=n90_
  have BK_g3:=n91_
  have BK_g6:=n92_
  have BK_g7:=n93_
  have BK_g9:=n94_
  have BK_g10:=n95_
  have O_cd:=n96_
  clear n90_ n91_ n92_ n93_ n94_ n95_ n96_
  (try simp only [Act.put,List.setIfInBounds_toArray,List.set_cons_zero,List.set_cons_succ])
  refine start_ (n:=7) (S:=fun w' => w'.cell? ⟨g3,0,none⟩ = some (.int .u64 a0_0) ∧ w'.cell? ⟨g3,1,none⟩ = some (.slice A0_1 l0_1.length c0_1) ∧ w'.cell? ⟨g3,2,none⟩ = some (.slice (some ad) l0_2.length c0_2) ∧ w'.cell? ⟨g3,3,none⟩ = some (.slice A0_3 l0_3.length c0_3) ∧ w'.cell? ⟨g3,4,none⟩ = some (.bool a0_4) ∧ w'.cell? ⟨g3,5,none⟩ = some (.bool true) ∧ w'.cell? ⟨g3,6,none⟩ = some (.bool a0_6) ∧ w'.cell? ⟨g9,0,none⟩ = some (.int .u64 off) ∧ w'.cell? ⟨g9,1,none⟩ = some (.slice Dy y.length qy) ∧ w'.cell? ⟨g9,2,none⟩ = some (.bool cf)) (ds:=[5]) #[false,false,false,false,false,false,false] (by kernel_rfl) rfl rfl ⟨(blk_cell BK_g3.out 0).trans rfl,(blk_cell BK_g3.out 1).trans rfl,(blk_cell BK_g3.out 2).trans rfl,(blk_cell BK_g3.out 3).trans rfl,(blk_cell BK_g3.out 4).trans rfl,(blk_cell BK_g3.out 5).trans rfl,(blk_cell BK_g3.out 6).trans rfl,(blk_cell BK_g9.out 0).trans rfl,(blk_cell BK_g9.out 1).trans rfl,(blk_cell BK_g9.out 2).trans rfl⟩ (fun hHeld => ?_)
  generalize w24.drew = w25 at HB BK_g3 BK_g6 BK_g7 BK_g9 BK_g10 O_cd hHeld ⊢
  have HLT:=Aside0.mk (Kd.R_lt O_cd.out)
  refine pure_ (i:=1) (N:=some 91) (v:=?_) (a':=?_) #[false,true,false,false,false,false,false] rfl rfl (by kernel_rfl) (fun _ _ _ h => h) (Or.inl ⟨by rfl,?_⟩) ?_ ?_
  rotate_left
  ·intro w'
   go_simp
   with_reducible rfl
  rotate_left
  ·simp only [Act.put,List.setIfInBounds_toArray,List.set_cons_zero,List.set_cons_succ,i64_w,i32_w]
   rfl
  refine take_ (i:=0) (N:=some 90) (v:=?_) (a':=?_) #[true,true,false,false,false,false,false] rfl rfl (by kernel_rfl) (fun _ _ _ h => h) (Or.inl ⟨by rfl,?_⟩) hHeld ?_ ?_
  rotate_left
  ·rintro w' ⟨s0,s1,s2,s3,s4,s5,s6,s7,s8,s9⟩
   go_simp
   with_reducible rfl
  rotate_left
  ·simp only [Act.put,List.setIfInBounds_toArray,List.set_cons_zero,List.set_cons_succ,i64_w,i32_w]
   rfl
  refine take_ (i:=3) (N:=some 93) (v:=?_) (a':=?_) #[true,true,false,true,false,false,false] rfl rfl (by kernel_rfl) (fun _ _ _ h => h) (Or.inl ⟨by rfl,?_⟩) hHeld ?_ ?_
  rotate_left
  ·rintro w' ⟨s0,s1,s2,s3,s4,s5,s6,s7,s8,s9⟩
   go_simp
   with_reducible rfl
  rotate_left
  ·simp only [Act.put,List.setIfInBounds_toArray,List.set_cons_zero,List.set_cons_succ,i64_w,i32_w]
   rfl
  refine one_ (i:=2) (N:=some 92) #[true,true,true,true,false,false,false] rfl rfl (by kernel_rfl) (by decide) (fun K hK => ?_)
  refine goes_ Try.func19 (by kernel_rfl) rfl #[.agg #[.int .u64 a0_0,.slice A0_1 l0_1.length c0_1,.slice (some ad) l0_2.length c0_2,.slice A0_3 l0_3.length c0_3,.bool a0_4,.bool true,.bool a0_6],.func (.func 23) #[] #[.pointer (some ⟨g9,0,none⟩),.pointer (some ⟨g10,0,none⟩)]] (by rfl) rfl rfl (by (try simp only [List.map_toArray,List.map_cons,List.map_nil]);first | done | rfl) ?_
  refine (supply_changed.hand (fun W_ x0 y1 y2 y3 y4 y5 y6 => a0_0 = x0 ∧ a0_4 = y4 ∧ f5 = y5 ∧ a0_6 = y6 ∧ Kd.R (Kd.int .u8) 5 W_ w25.heap.size (fun _ => True) y1 l0_1 ∧ Kd.R k37 37 W_ w25.heap.size (fun _ => True) y2 t2 ∧ Kd.R k37 37 W_ w25.heap.size (fun _ => True) y3 l0_3) a0_0 _ _ l0_1 _ _ l0_2 _ _ l0_3 a0_4 true a0_6 23 _ #[.pointer (some ⟨g9,0,none⟩),.pointer (some ⟨g10,0,none⟩)] w25 (by rintro W_ g_ cs_ b0 b1 b2 b3 b4 b5 b6 x0 y1 y2 y3 y4 y5 y6 hb_ ⟨rfl,rfl,rfl,rfl,h1,h2,h3⟩;exact ⟨rfl,rfl,rfl,rfl,R_set7 h1 hb_ (ne_of rfl (by decide)),R_set7 h2 hb_ (ne_of rfl (by decide)),R_set7 h3 hb_ (ne_of rfl (by decide))⟩) Try.func23 (by kernel_rfl) rfl (Kd.C_below HR1.out HB.out) HC1.out (Kd.C_below HR2.out HB.out) HC2.out (Kd.C_below HR3.out HB.out) HC3.out HL.out.1 HL.out.2.1 HL.out.2.2.1 (fun g_ g4_ cs4_ v1_ v2_ v3_ W_ hb_ hb4_ hne_ hge_ hr1_ hr2_ hr3_ hB_ => Calls.mono (supply_Next_1.hand g9 g10 (.slice Dy y.length qy) off tz cf t2 a0_0 l0_1 l0_2 l0_3 v1_ v2_ v3_ a0_4 true a0_6 g_ g4_ cs4_ w25 W_ hb_ hb4_ hne_ hge_ hr1_ hr2_ hr3_ hB_ (blk_below BK_g9.out hB_) (blk_below BK_g10.out hB_) HT.out) (by rintro e_ W2_ ⟨rfl,u2_,hb2_,hb42_,q1_,q2_,q3_,hB2_⟩;obtain ⟨X1,Y1,z1⟩:=Kd.R_slice q1_;obtain ⟨X2,Y2,z2⟩:=Kd.R_slice q2_;obtain ⟨X3,Y3,z3⟩:=Kd.R_slice q3_;subst z1 z2 z3;exact ⟨rfl,_,_,_,_,_,_,_,_,_,_,_,_,_,hb2_,hb42_,⟨rfl,rfl,HF5.out.symm,rfl,q1_,q2_,q3_⟩,hB2_⟩))).mono ?_
  rintro e_ w26 ⟨x0,B1,p1,q1,B2,p2,q2,B3,p3,q3,y4,y5,y6,rfl,⟨rfl,rfl,rfl,rfl,h1,h2,h3⟩,hb⟩
  refine ⟨_,rfl,?_⟩
  have hsz_:=HB.out.size
  have F1:=Aside0.mk h1
  have F2:=Aside0.mk h2
  have F3:=Aside0.mk h3
  have HSZ:=Aside0.mk hsz_
  clear h1 h2 h3 hsz_
  have n97_:=Aside0.mk (below_step HB.out hb)
  have n98_:=Aside0.mk (blk_below BK_g3.out hb)
  have n99_:=Aside0.mk (blk_below BK_g6.out hb)
  have n100_:=Aside0.mk (blk_below BK_g7.out hb)
  have n101_:=Aside0.mk (blk_below BK_g9.out hb)
  have n102_:=Aside0.mk (blk_below BK_g10.out hb)
  have n103_:=Aside0.mk (Kd.R_below O_cd.out hb)
  clear HB BK_g3 BK_g6 BK_g7 BK_g9 BK_g10 O_cd
  have HB:=n97_
  have BK_g3:=n98_
  have BK_g6:=n99_
  have BK_g7:=n100_
  have BK_g9:=n101_
  have BK_g10:=n102_
  have O_cd:=n103_
  clear n97_ n98_ n99_ n100_ n101_ n102_ n103_
  clear hb
  obtain ⟨hx_g6_0,hf_g6_0,hx_g6_1,hf_g6_1,hx_g6_2,hf_g6_2,hx_g6_3,hf_g6_3,hx_g6_4,hf_g6_4,hx_g6_5,hf_g6_5,hx_g6_6,hf_g6_6⟩:=cells7 BK_g6.out
  obtain ⟨hx_g7_0,hf_g7_0,hx_g7_1,hf_g7_1,hx_g7_2,hf_g7_2⟩:=cells3 BK_g7.out
  obtain ⟨hx_g9_0,hf_g9_0,hx_g9_1,hf_g9_1,hx_g9_2,hf_g9_2⟩:=cells3 BK_g9.out
  obtain ⟨hx_g3_0,hf_g3_0,hx_g3_1,hf_g3_1,hx_g3_2,hf_g3_2,hx_g3_3,hf_g3_3,hx_g3_4,hf_g3_4,hx_g3_5,hf_g3_5,hx_g3_6,hf_g3_6⟩:=cells7 BK_g3.out
  refine hK.out _ _ ⟨(blk_cell BK_g3.out 0).trans rfl,(blk_cell BK_g3.out 1).trans rfl,(blk_cell BK_g3.out 2).trans rfl,(blk_cell BK_g3.out 3).trans rfl,(blk_cell BK_g3.out 4).trans rfl,(blk_cell BK_g3.out 5).trans rfl,(blk_cell BK_g3.out 6).trans rfl,(blk_cell BK_g9.out 0).trans rfl,(blk_cell BK_g9.out 1).trans rfl,(blk_cell BK_g9.out 2).trans rfl⟩ (fun hHeld => ?_)
  clear hK K
  refine norm_ (a':=?_) ?_ ?_
  rotate_left
  ·show Act.put _ (some 92) _ = _
   simp only [Act.put,List.setIfInBounds_toArray,List.set_cons_zero,List.set_cons_succ,i64_w,i32_w]
   rfl
  refine one_ (i:=4) (N:=none) #[true,true,true,true,true,false,false] rfl rfl (by kernel_rfl) (by decide) (fun K hK => ?_)
  refine skip_ (w1:=?_) (by rfl) rfl ?_ ?_
  rotate_left
  ·go_simp
   rfl
  clear hx_g6_0 hf_g6_0 hx_g6_1 hf_g6_1 hx_g6_2 hf_g6_2 hx_g6_3 hf_g6_3 hx_g6_4 hf_g6_4 hx_g6_5 hf_g6_5 hx_g6_6 hf_g6_6 hx_g7_0 hf_g7_0 hx_g7_1 hf_g7_1 hx_g7_2 hf_g7_2 hx_g9_0 hf_g9_0 hx_g9_1 hf_g9_1 hx_g9_2 hf_g9_2 hx_g3_0 hf_g3_0 hx_g3_1 hf_g3_1 hx_g3_2 hf_g3_2 hx_g3_3 hf_g3_3 hx_g3_4 hf_g3_4 hx_g3_5 hf_g3_5 hx_g3_6 hf_g3_6
  obtain ⟨w27,hw104_⟩ : ∃ w_ : World,set7 w26 g6 (.int .u64 a0_0) (.slice B1 p1 q1) (.slice B2 p2 q2) (.slice B3 p3 q3) (.bool a0_4) (.bool f5) (.bool a0_6) = w_:=⟨_,rfl⟩
  have n105_:=Aside0.mk (blk7 hw104_ BK_g6.out)
  have n106_:=Aside0.mk (far7 hw104_ NB_g3_g6 BK_g3.out)
  have n107_:=Aside0.mk (far7 hw104_ NB_g7_g6 BK_g7.out)
  have n108_:=Aside0.mk (far7 hw104_ NB_g9_g6 BK_g9.out)
  have n109_:=Aside0.mk (far7 hw104_ NB_g10_g6 BK_g10.out)
  have n110_:=Aside0.mk (R7 hw104_ BK_g6.out rfl (by decide) O_cd.out)
  have n111_:=Aside0.mk (R7 hw104_ BK_g6.out rfl (by decide) F1.out)
  have n112_:=Aside0.mk (R7 hw104_ BK_g6.out rfl (by decide) F2.out)
  have n113_:=Aside0.mk (R7 hw104_ BK_g6.out rfl (by decide) F3.out)
  have n114_:=Aside0.mk (below7 hw104_ GE_g6.out HB.out)
  rw [set7_fold,hw104_]
  clear hw104_ BK_g6 BK_g3 BK_g7 BK_g9 BK_g10 O_cd F1 F2 F3 HB
  have BK_g6:=n105_
  have BK_g3:=n106_
  have BK_g7:=n107_
  have BK_g9:=n108_
  have BK_g10:=n109_
  have O_cd:=n110_
  have F1:=n111_
  have F2:=n112_
  have F3:=n113_
  have HB:=n114_
  clear n105_ n106_ n107_ n108_ n109_ n110_ n111_ n112_ n113_ n114_
  obtain ⟨hx_g7_0,hf_g7_0,hx_g7_1,hf_g7_1,hx_g7_2,hf_g7_2⟩:=cells3 BK_g7.out
  refine hK.out _ _ ⟨(blk_cell BK_g3.out 0).trans rfl,(blk_cell BK_g3.out 1).trans rfl,(blk_cell BK_g3.out 2).trans rfl,(blk_cell BK_g3.out 3).trans rfl,(blk_cell BK_g3.out 4).trans rfl,(blk_cell BK_g3.out 5).trans rfl,(blk_cell BK_g3.out 6).trans rfl,(blk_cell BK_g9.out 0).trans rfl,(blk_cell BK_g9.out 1).trans rfl,(blk_cell BK_g9.out 2).trans rfl⟩ (fun hHeld => ?_)
  clear hK K
  refine last_ (i:=5) (N:=none) #[true,true,true,true,true,true,false] rfl rfl (by kernel_rfl) (by decide) (fun K hK => ?_)
  refine skip_ (w1:=?_) (by rfl) rfl ?_ ?_
  rotate_left
  ·go_simp
   rfl
  refine hK.out _ _ ?_
  clear hK K
  refine pure_ (i:=6) (N:=some 8) (v:=?_) (a':=?_) #[true,true,true,true,true,true,true] rfl rfl (by kernel_rfl) (fun _ _ _ h => h) (Or.inl ⟨by rfl,?_⟩) ?_ ?_
  rotate_left
  ·intro w'
   go_simp
   with_reducible rfl
  rotate_left
  ·simp only [Act.put,List.setIfInBounds_toArray,List.set_cons_zero,List.set_cons_succ,i64_w,i32_w]
   rfl
  refine done_ (by kernel_rfl) ?_
  go_wp2
  refine bodyPost_ret (results_list (rs:=[.cell 6 27,.cell 7 32,.tmp 8]) rfl (by simp) (.cell g6 27 #[.int .u64 a0_0,.slice B1 p1 q1,.slice B2 p2 q2,.slice B3 p3 q3,.bool a0_4,.bool f5,.bool a0_6] (0,0) _ rfl (blk_far (p:=⟨g7,2,none⟩) (blk_far (p:=⟨g7,1,none⟩) (blk_far (p:=⟨g7,0,none⟩) (BK_g6.out) NB_g6_g7 (.int .u64 off)) NB_g6_g7 (.slice Dy y.length qy)) NB_g6_g7 (.bool cf)) Try.underlying27 rfl (by kernel_rfl) (.cell g7 32 #[.int .u64 off,.slice Dy y.length qy,.bool cf] (0,0) _ rfl (blk_put (blk_put (blk_put (BK_g7.out) 0 (.int .u64 off) (cs':=#[.int .u64 off,.slice none 0 0,.bool false]) rfl) 1 (.slice Dy y.length qy) (cs':=#[.int .u64 off,.slice Dy y.length qy,.bool false]) rfl) 2 (.bool cf) (cs':=#[.int .u64 off,.slice Dy y.length qy,.bool cf]) rfl) Try.underlying32 rfl (by kernel_rfl) (.tmp .nil)))) rfl ?_
  exact ⟨_,_,_,_,rfl,Kd.R_mono (Kd.R_lower (Kd.R_bound (Kd.R_mono (Kd.R_far (p:=⟨g7,2,none⟩) (Kd.R_far (p:=⟨g7,1,none⟩) (Kd.R_far (p:=⟨g7,0,none⟩) (Kd.R_types F1.out BK_g7.out (ne_of rfl (by decide))) (fun _ hk => hk.2) (.int .u64 off)) (fun _ hk => hk.2) (.slice Dy y.length qy)) (fun _ hk => hk.2) (.bool cf)) (fun _ _ => trivial))) HSZ.out) (fun k hk => fun he_ => Nat.lt_irrefl _ (Nat.lt_of_lt_of_le (HLT.out k he_.symm) hk.2.1)),Kd.R_mono (Kd.R_lower (Kd.R_bound (Kd.R_mono (Kd.R_far (p:=⟨g7,2,none⟩) (Kd.R_far (p:=⟨g7,1,none⟩) (Kd.R_far (p:=⟨g7,0,none⟩) (Kd.R_types F2.out BK_g7.out (ne_of rfl (by decide))) (fun _ hk => hk.2) (.int .u64 off)) (fun _ hk => hk.2) (.slice Dy y.length qy)) (fun _ hk => hk.2) (.bool cf)) (fun _ _ => trivial))) HSZ.out) (fun k hk => fun he_ => Nat.lt_irrefl _ (Nat.lt_of_lt_of_le (HLT.out k he_.symm) hk.2.1)),Kd.R_mono (Kd.R_lower (Kd.R_bound (Kd.R_mono (Kd.R_far (p:=⟨g7,2,none⟩) (Kd.R_far (p:=⟨g7,1,none⟩) (Kd.R_far (p:=⟨g7,0,none⟩) (Kd.R_types F3.out BK_g7.out (ne_of rfl (by decide))) (fun _ hk => hk.2) (.int .u64 off)) (fun _ hk => hk.2) (.slice Dy y.length qy)) (fun _ hk => hk.2) (.bool cf)) (fun _ _ => trivial))) HSZ.out) (fun k hk => fun he_ => Nat.lt_irrefl _ (Nat.lt_of_lt_of_le (HLT.out k he_.symm) hk.2.1)),Kd.R_mono (Kd.R_far (p:=⟨g7,2,none⟩) (Kd.R_far (p:=⟨g7,1,none⟩) (Kd.R_far (p:=⟨g7,0,none⟩) (Kd.R_types O_cd.out BK_g7.out (ne_of rfl (by decide))) (fun _ hk => hk.2) (.int .u64 off)) (fun _ hk => hk.2) (.slice Dy y.length qy)) (fun _ hk => hk.2) (.bool cf)) (fun _ _ => trivial),below_set (below_set (below_set (HB.out) GE_g7.out (j:=0) (v:=.int .u64 off)) GE_g7.out (j:=1) (v:=.slice Dy y.length qy)) GE_g7.out (j:=2) (v:=.bool cf)⟩
def supply_Next.part (a0_0 : Int) (l0_1 : List Int) (l0_2 : List S37) (l0_3 : List S37) (a0_4 : Bool) (a0_5 : Bool) (a0_6 : Bool) (off tz : Int) : Option (Int × List Int × List S37 × List S37 × Bool × Bool × Bool × Int × List Int × Bool × Bool) :=
 if a0_0 ≤ off ∧ off ≤ tz ∧ tz ≤ a0_0 + (l0_1.length : Int) then (span_Cut.f l0_2 off tz).bind fun x2 => some (a0_0,l0_1,x2,l0_3,a0_4,(a0_5 && !(a0_5 && (tz == a0_0 + (l0_1.length : Int)))),a0_6,off,(l0_1.take (tz - a0_0).toNat).drop (off - a0_0).toNat,(a0_5 && (tz == a0_0 + (l0_1.length : Int))),true) else none

end Go.Proofs.Ytadhkamocbhbmaa.P
