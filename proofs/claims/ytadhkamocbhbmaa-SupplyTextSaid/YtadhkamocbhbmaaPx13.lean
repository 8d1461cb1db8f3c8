-- Printed for this claim by xprint.py of this session: contracts of this session's own stand in for what the print does not take
import Derived.Test.YtadhkamocbhbmaaPx0
import Derived.Test.YtadhkamocbhbmaaPx4
import Derived.Test.YtadhkamocbhbmaaPx7
import Derived.Test.YtadhkamocbhbmaaPx10
namespace Go.Proofs.Ytadhkamocbhbmaa.P
open Go.RowKit Go.Proofs.YtadhkamocbhbmaaW.PrintWords Go.Proofs.YtadhkamocbhbmaaW.PrintLast Go.Proofs.YtadhkamocbhbmaaW.PrintMore
attribute [local go_sem] max2_int min2_int max_two min_two max_three min_three max_four min_four   -- for this text's walks alone
set_option linter.unusedVariables false
set_option linter.unusedSimpArgs false

/-! ### supply_Lost_1: function 27 -/
/-- Spans are cut out,one by one. -/
def supply_cuts : List S37 → List S37 → Option (List S37)
 | fr,[] => some fr
 | fr,s :: t => (span_Cut.f fr s.f0 s.f1).bind fun fr2 => supply_cuts fr2 t
/-- Spans are put in,one by one. -/
def supply_adds (k : Nat) : List S37 → List S37 → Option (List S37)
 | fr,[] => some fr
 | fr,s :: t => (span_Add.f k fr s.f0 s.f1).bind fun fr2 => supply_adds k fr2 t
set_option maxHeartbeats 8000000 in
set_option maxRecDepth 100000 in
theorem supply_Lost_1.hand (gc : Nat) (off : Int) (Ac : Option Addr) (cc : Nat) (cl : List Int) (cf : Bool) (e p0 p1 : Int) (a0 a1 t2 : List S37) (k : Nat) (b : Int) (d : List Int) (t c : List S37) (v1 v2 v3 : Value) (fin ft fc : Bool) (g g4 : Nat) (cs4 : Array Value) (w0 W : World)
  (hb : W.heap[g]? = some (.cells #[.int .u64 b,v1,v2,v3,.bool fin,.bool ft,.bool fc] 27 (0,0))) (hb4 : W.heap[g4]? = some (.cells cs4 27 (0,0))) (hne : g ≠ g4) (hge : w0.heap.size ≤ g) (r1 : Kd.R (Kd.int .u8) 5 W w0.heap.size (fun _ => True) v1 d) (r2 : Kd.R k37 37 W w0.heap.size (fun _ => True) v2 t) (r3 : Kd.R k37 37 W w0.heap.size (fun _ => True) v3 c) (hB : Below w0.heap.size w0 W) (hgc : W.heap[gc]? = some (.cells #[.int .u64 off,.slice Ac cl.length cc,.bool cf] 32 (0,0))) (hL : c.length < 1000000000 ∧ a1.length < 1000000000) (hE : IntKind.u64.wrap (b + IntKind.u64.wrap (d.length : Int)) = e) (hP : supply_places.f b off e cl.length = (p0,p1)) (hA : span_Add.f k [] p0 p1 = some a0) (hC : supply_cuts a0 c = some a1) (hT : supply_adds k t a1 = some t2) :
  Calls Try.prog 27 #[.pointer (some ⟨g,0,none⟩),.pointer (some ⟨gc,0,none⟩)] W fun e_ W2 => e_ = .returned (.tuple #[]) ∧ ∃ u2 : Value,W2.heap[g]? = some (.cells #[.int .u64 b,v1,u2,v3,.bool fin,.bool (if ft then true else (cf && fin && !fc)),.bool fc] 27 (0,0)) ∧ W2.heap[g4]? = some (.cells cs4 27 (0,0)) ∧ Kd.R (Kd.int .u8) 5 W2 w0.heap.size (fun _ => True) v1 d ∧ Kd.R k37 37 W2 w0.heap.size (fun _ => True) u2 t2 ∧ Kd.R k37 37 W2 w0.heap.size (fun _ => True) v3 c ∧ Below w0.heap.size w0 W2:=by
 obtain ⟨B1,q1,e1_⟩:=Kd.R_slice r1
 subst e1_
 obtain ⟨B2,q2,e2_⟩:=Kd.R_slice r2
 subst e2_
 obtain ⟨B3,q3,e3_⟩:=Kd.R_slice r3
 subst e3_
 have BS:=Aside0.mk hb
 have B4:=Aside0.mk hb4
 have GE:=Aside0.mk hge
 have O_d:=Aside0.mk r1
 have O_t:=Aside0.mk r2
 have O_c:=Aside0.mk r3
 have HB:=Aside0.mk hB
 clear hb hb4 hge r1 r2 r3 hB
 have BC:=Aside0.mk hgc
 have NE_gc : gc ≠ g:=blk_ne BC.out BS.out (by decide)
 clear hgc
 have HL:=Aside0.mk hL
 have HE:=Aside0.mk hE
 have HP:=Aside0.mk hP
 have HA:=Aside0.mk hA
 have HC:=Aside0.mk hC
 have HT:=Aside0.mk hT
 clear hL hE hP hA hC hT
 obtain ⟨hx_gc_0,hf_gc_0,hx_gc_1,hf_gc_1,hx_gc_2,hf_gc_2⟩:=cells3 BC.out
 go_enter Try.func27,Try.ntmps27
 go_upto_region 1 with (first
  | ((with_reducible refine gate_callee (f:=26) rfl ?_);refine goesL_ (some 10) rfl rfl Try.func26 (by kernel_rfl) rfl #[.pointer (some ⟨g,0,none⟩),.agg #[.int .u64 off,.slice Ac cl.length cc,.bool cf]] rfl (by (try simp only [List.map_toArray,List.map_cons,List.map_nil]);first | done | rfl) ?_;refine (supply_places.hand b d t c _ _ _ _ _ _ fin ft fc g off Ac cc cl cf e p0 p1 _ BS.out (Kd.R_reads' O_d.out).2.2 (Kd.R_reads' O_d.out).2.1 (Kd.R_reads' O_t.out).2.2 (Kd.R_reads' O_t.out).2.1 (Kd.R_reads' O_c.out).2.2 (Kd.R_reads' O_c.out).2.1 HE.out HP.out).mono ?_;rintro e_ w3 ⟨rfl,hb⟩;refine ⟨_,rfl,?_⟩;clear hx_gc_0 hf_gc_0 hx_gc_1 hf_gc_1 hx_gc_2 hf_gc_2;have n1_:=Aside0.mk (below_step HB.out hb);have n2_:=Aside0.mk (blk_below BS.out hb);have n3_:=Aside0.mk (blk_below B4.out hb);have n4_:=Aside0.mk (blk_below BC.out hb);have n5_:=Aside0.mk (Kd.R_below O_d.out hb);have n6_:=Aside0.mk (Kd.R_below O_t.out hb);have n7_:=Aside0.mk (Kd.R_below O_c.out hb);clear HB BS B4 BC O_d O_t O_c;have HB:=n1_;have BS:=n2_;have B4:=n3_;have BC:=n4_;have O_d:=n5_;have O_t:=n6_;have O_c:=n7_;clear n1_ n2_ n3_ n4_ n5_ n6_ n7_;clear hb)
  | ((with_reducible refine gate_callee (f:=21) rfl ?_);refine goesL_ (some 11) rfl rfl Try.func21 (by kernel_rfl) rfl #[.slice none 0 0,.agg #[.int .u64 p0,.int .u64 p1]] rfl (by (try simp only [List.map_toArray,List.map_cons,List.map_nil]);first | done | rfl) ?_;refine (span_Add.calls k none 0 [] p0 p1 a0 _ (Kd.C_nil _ _) (Nat.le_refl _) HA.out).mono ?_;rintro e_ w4 ⟨u_,rfl,ho,hb⟩;refine ⟨_,rfl,?_⟩;have O_ag:=Aside0.mk (Kd.R_lower ho HB.out.size);clear ho;have n8_:=Aside0.mk (below_step HB.out hb);have n9_:=Aside0.mk (blk_below BS.out hb);have n10_:=Aside0.mk (blk_below B4.out hb);have n11_:=Aside0.mk (blk_below BC.out hb);have n12_:=Aside0.mk (Kd.R_below O_d.out hb);have n13_:=Aside0.mk (Kd.R_below O_t.out hb);have n14_:=Aside0.mk (Kd.R_below O_c.out hb);clear HB BS B4 BC O_d O_t O_c;have HB:=n8_;have BS:=n9_;have B4:=n10_;have BC:=n11_;have O_d:=n12_;have O_t:=n13_;have O_c:=n14_;clear n8_ n9_ n10_ n11_ n12_ n13_ n14_;clear hb;obtain ⟨D0,p0_,eo⟩:=Kd.R_slice O_ag.out;subst eo;obtain ⟨hx_g_0,hf_g_0,hx_g_1,hf_g_1,hx_g_2,hf_g_2,hx_g_3,hf_g_3,hx_g_4,hf_g_4,hx_g_5,hf_g_5,hx_g_6,hf_g_6⟩:=cells7 BS.out))
 go_wp2_with fail
 go_loopg [3,17] c.length (fun kq v3 v17 w' => ∃ (i : Int) (fr : List S37),v17 = .int .i64 i ∧ Aside0 (0 ≤ i ∧ i + kq = c.length) ∧ Aside0 (supply_cuts fr (c.drop i.toNat) = some a1) ∧ Aside0 (Kd.R k37 37 w' w0.heap.size (fun _ => True) v3 fr) ∧ Aside0 (w'.heap[g]? = some (.cells #[.int .u64 b,.slice B1 d.length q1,.slice B2 t.length q2,.slice B3 c.length q3,.bool fin,.bool ft,.bool fc] 27 (0,0))) ∧ Aside0 (w'.heap[g4]? = some (.cells cs4 27 (0,0))) ∧ Aside0 (w'.heap[gc]? = some (.cells #[.int .u64 off,.slice Ac cl.length cc,.bool cf] 32 (0,0))) ∧ Aside0 (Kd.R (Kd.int .u8) 5 w' w0.heap.size (fun _ => True) (.slice B1 d.length q1) (d)) ∧ Aside0 (Kd.R k37 37 w' w0.heap.size (fun _ => True) (.slice B2 t.length q2) (t)) ∧ Aside0 (Kd.R k37 37 w' w0.heap.size (fun _ => True) (.slice B3 c.length q3) (c)) ∧ Aside0 (Below w0.heap.size w0 w'))
 case atStart => exact ⟨0,_,rfl,⟨by simp⟩,⟨by simpa using HC.out⟩,O_ag,BS,B4,BC,O_d,O_t,O_c,HB⟩
 case round =>
  clear hx_g_0 hf_g_0 hx_g_1 hf_g_1 hx_g_2 hf_g_2 hx_g_3 hf_g_3 hx_g_4 hf_g_4 hx_g_5 hf_g_5 hx_g_6 hf_g_6
  clear O_ag BS B4 BC O_d O_t O_c HB
  obtain ⟨i,fr,rfl,HI2,HQ,O_fr,BS,B4,BC,O_d,O_t,O_c,HB⟩:=hrel
  by_cases ci : i < (c.length : Int)
  ·have cib : decide (i < (c.length : Int)) = true:=decide_eq_true ci
   cases gk with
   | zero => exact absurd HI2.out.2 (by omega)
   | succ k1 =>
    have p0_ : 0 ≤ (i : Int):=HI2.out.1
    have q0_ : (i : Int) < (c.length : Int):=ci
    obtain ⟨fr2,Q1,Q2⟩ : ∃ fr2,Aside0 (span_Cut.f fr (rd_T37 c i).f0 (rd_T37 c i).f1 = some fr2) ∧ Aside0 (supply_cuts fr2 (c.drop (i + 1).toNat) = some a1):=by
     have h_:=HQ.out
     have hi_ : i.toNat < c.length:=by omega
     rw [List.drop_eq_getElem_cons hi_] at h_
     obtain ⟨fr2,f1,f2⟩:=Option.bind_eq_some_iff.mp h_
     have er : rd_T37 c i = c[i.toNat]:=by unfold rd_T37;simp [List.getD_eq_getElem?_getD,List.getElem?_eq_getElem hi_]
     rw [er,show (i + 1).toNat = i.toNat + 1 by omega]
     exact ⟨fr2,⟨f1⟩,⟨f2⟩⟩
    obtain ⟨ad,e_,hxa,hxb⟩:=at_T37 (Kd.R_reads' O_c.out).2.2 (i : Int) p0_ q0_
    subst e_
    replace p0_:=eq_true p0_
    replace q0_:=eq_true q0_
    clear ci
    generalize (rd_T37 c (i : Int)) = x at hxa hxb Q1
    obtain ⟨Af,cf_,ef⟩:=Kd.R_slice O_fr.out
    subst ef
    go_upto_region 4 with (first
     | ((with_reducible refine gate_dst (N:=5) rfl ?_);refine box_event ?hg (N:=5) ?hd (cs:=#[.int .u64 0,.int .u64 0]) (t:=37) ?hr ?_;(case hd => rfl);(case hg => rfl);(case hr => first | (go_simp;done) | (go_simp;rfl));intro g5 hg w18 hbox hb;have GE_g5:=Aside0.mk (show w0.heap.size ≤ g5 by rw [hg];exact HB.out.size);have NB_g_g5 : g ≠ g5:=(by rw [hg];exact Nat.ne_of_lt (blk_lt BS.out));have NB_g5_g:=NB_g_g5.symm;have NB_g4_g5 : g4 ≠ g5:=(by rw [hg];exact Nat.ne_of_lt (blk_lt B4.out));have NB_g5_g4:=NB_g4_g5.symm;have NB_gc_g5 : gc ≠ g5:=(by rw [hg];exact Nat.ne_of_lt (blk_lt BC.out));have NB_g5_gc:=NB_gc_g5.symm;have n15_:=Aside0.mk (below_step HB.out hb);have n16_:=Aside0.mk (blk_below BS.out hb);have n17_:=Aside0.mk (blk_below B4.out hb);have n18_:=Aside0.mk (blk_below BC.out hb);have n19_:=Aside0.mk (Kd.R_below O_d.out hb);have n20_:=Aside0.mk (Kd.R_below (Kd.R_elderB O_t.out g5 (Nat.le_of_eq hg.symm)) hb);have n21_:=Aside0.mk (Kd.R_below (Kd.R_elderB O_c.out g5 (Nat.le_of_eq hg.symm)) hb);have n22_:=Aside0.mk (Kd.R_below (Kd.R_elderB O_fr.out g5 (Nat.le_of_eq hg.symm)) hb);clear HB BS B4 BC O_d O_t O_c O_fr;have HB:=n15_;have BS:=n16_;have B4:=n17_;have BC:=n18_;have O_d:=n19_;have O_t:=n20_;have O_c:=n21_;have O_fr:=n22_;clear n15_ n16_ n17_ n18_ n19_ n20_ n21_ n22_;have BK_g5:=Aside0.mk hbox;clear hbox hb hg;obtain ⟨hx_g5_0,hf_g5_0,hx_g5_1,hf_g5_1⟩:=cells2 BK_g5.out))
    clear hx_g5_0 hf_g5_0 hx_g5_1 hf_g5_1
    have n23_ : Aside0 (((w18.setCell ⟨g5,0,none⟩ (.int .u64 x.f0)).setCell ⟨g5,1,none⟩ (.int .u64 x.f1)).heap[g5]? = some (.cells #[.int .u64 x.f0,.int .u64 x.f1] 37 (0,0))):=⟨blk_put (blk_put (BK_g5.out) 0 (.int .u64 x.f0) (cs':=#[.int .u64 x.f0,.int .u64 0]) rfl) 1 (.int .u64 x.f1) (cs':=#[.int .u64 x.f0,.int .u64 x.f1]) rfl⟩
    have n24_ : Aside0 (((w18.setCell ⟨g5,0,none⟩ (.int .u64 x.f0)).setCell ⟨g5,1,none⟩ (.int .u64 x.f1)).heap[g]? = some (.cells #[.int .u64 b,.slice B1 d.length q1,.slice B2 t.length q2,.slice (some ad) c.length q3,.bool fin,.bool ft,.bool fc] 27 (0,0))):=⟨blk_far (p:=⟨g5,1,none⟩) (blk_far (p:=⟨g5,0,none⟩) (BS.out) NB_g_g5 (.int .u64 x.f0)) NB_g_g5 (.int .u64 x.f1)⟩
    have n25_ : Aside0 (((w18.setCell ⟨g5,0,none⟩ (.int .u64 x.f0)).setCell ⟨g5,1,none⟩ (.int .u64 x.f1)).heap[g4]? = some (.cells cs4 27 (0,0))):=⟨blk_far (p:=⟨g5,1,none⟩) (blk_far (p:=⟨g5,0,none⟩) (B4.out) NB_g4_g5 (.int .u64 x.f0)) NB_g4_g5 (.int .u64 x.f1)⟩
    have n26_ : Aside0 (((w18.setCell ⟨g5,0,none⟩ (.int .u64 x.f0)).setCell ⟨g5,1,none⟩ (.int .u64 x.f1)).heap[gc]? = some (.cells #[.int .u64 off,.slice Ac cl.length cc,.bool cf] 32 (0,0))):=⟨blk_far (p:=⟨g5,1,none⟩) (blk_far (p:=⟨g5,0,none⟩) (BC.out) NB_gc_g5 (.int .u64 x.f0)) NB_gc_g5 (.int .u64 x.f1)⟩
    have n27_ : Aside0 (Kd.R (Kd.int .u8) 5 ((w18.setCell ⟨g5,0,none⟩ (.int .u64 x.f0)).setCell ⟨g5,1,none⟩ (.int .u64 x.f1)) w0.heap.size (fun _ => True) (.slice B1 d.length q1) (d)):=⟨Kd.R_mono (Kd.R_far (p:=⟨g5,1,none⟩) (Kd.R_far (p:=⟨g5,0,none⟩) (Kd.R_types O_d.out BK_g5.out (ne_of rfl (by decide))) (fun _ hk => hk.2) (.int .u64 x.f0)) (fun _ hk => hk.2) (.int .u64 x.f1)) (fun _ _ => trivial)⟩
    have n28_ : Aside0 (Kd.R k37 37 ((w18.setCell ⟨g5,0,none⟩ (.int .u64 x.f0)).setCell ⟨g5,1,none⟩ (.int .u64 x.f1)) w0.heap.size (fun _ => True) (.slice B2 t.length q2) (t)):=⟨Kd.R_mono (Kd.R_far (p:=⟨g5,1,none⟩) (Kd.R_far (p:=⟨g5,0,none⟩) (O_t.out) (fun _ hk => hk.2) (.int .u64 x.f0)) (fun _ hk => hk.2) (.int .u64 x.f1)) (fun _ _ => trivial)⟩
    have n29_ : Aside0 (Kd.R k37 37 ((w18.setCell ⟨g5,0,none⟩ (.int .u64 x.f0)).setCell ⟨g5,1,none⟩ (.int .u64 x.f1)) w0.heap.size (fun _ => True) (.slice (some ad) c.length q3) (c)):=⟨Kd.R_mono (Kd.R_far (p:=⟨g5,1,none⟩) (Kd.R_far (p:=⟨g5,0,none⟩) (O_c.out) (fun _ hk => hk.2) (.int .u64 x.f0)) (fun _ hk => hk.2) (.int .u64 x.f1)) (fun _ _ => trivial)⟩
    have n30_ : Aside0 (Kd.R k37 37 ((w18.setCell ⟨g5,0,none⟩ (.int .u64 x.f0)).setCell ⟨g5,1,none⟩ (.int .u64 x.f1)) w0.heap.size (fun _ => True) (.slice Af fr.length cf_) (fr)):=⟨Kd.R_mono (Kd.R_far (p:=⟨g5,1,none⟩) (Kd.R_far (p:=⟨g5,0,none⟩) (O_fr.out) (fun _ hk => hk.2) (.int .u64 x.f0)) (fun _ hk => hk.2) (.int .u64 x.f1)) (fun _ _ => trivial)⟩
    have n31_ : Aside0 (Below w0.heap.size w0 ((w18.setCell ⟨g5,0,none⟩ (.int .u64 x.f0)).setCell ⟨g5,1,none⟩ (.int .u64 x.f1))):=⟨below_set (below_set (HB.out) GE_g5.out (j:=0) (v:=.int .u64 x.f0)) GE_g5.out (j:=1) (v:=.int .u64 x.f1)⟩
    clear BK_g5 BS B4 BC O_d O_t O_c O_fr HB
    have BK_g5:=n23_
    have BS:=n24_
    have B4:=n25_
    have BC:=n26_
    have O_d:=n27_
    have O_t:=n28_
    have O_c:=n29_
    have O_fr:=n30_
    have HB:=n31_
    clear n23_ n24_ n25_ n26_ n27_ n28_ n29_ n30_ n31_
    generalize ((w18.setCell ⟨g5,0,none⟩ (.int .u64 x.f0)).setCell ⟨g5,1,none⟩ (.int .u64 x.f1)) = w19 at BK_g5 BS B4 BC O_d O_t O_c O_fr HB ⊢
    obtain ⟨hx_g5_0,hf_g5_0,hx_g5_1,hf_g5_1⟩:=cells2 BK_g5.out
    go_wp2_with ((with_reducible refine gate_callee (f:=24) rfl ?_);refine goesL_ (some 23) rfl rfl Try.func24 (by kernel_rfl) rfl #[.slice Af fr.length cf_,.agg #[.int .u64 x.f0,.int .u64 x.f1]] rfl (by (try simp only [List.map_toArray,List.map_cons,List.map_nil]);first | done | rfl) ?_;refine (span_Cut.calls Af cf_ fr x.f0 x.f1 fr2 _ (Kd.R_reads' O_fr.out).2.2 (Kd.R_reads' O_fr.out).2.1 Q1.out).mono ?_;rintro e_ w20 ⟨v20,rfl,ho,hb⟩;refine ⟨_,rfl,?_⟩;have O_f2:=Aside0.mk (Kd.R_lower ho HB.out.size);clear ho;clear hx_g5_0 hf_g5_0 hx_g5_1 hf_g5_1;have n32_:=Aside0.mk (below_step HB.out hb);have n33_:=Aside0.mk (blk_below BS.out hb);have n34_:=Aside0.mk (blk_below B4.out hb);have n35_:=Aside0.mk (blk_below BC.out hb);have n36_:=Aside0.mk (Kd.R_below O_d.out hb);have n37_:=Aside0.mk (Kd.R_below O_t.out hb);have n38_:=Aside0.mk (Kd.R_below O_c.out hb);clear HB BS B4 BC O_d O_t O_c;have HB:=n32_;have BS:=n33_;have B4:=n34_;have BC:=n35_;have O_d:=n36_;have O_t:=n37_;have O_c:=n38_;clear n32_ n33_ n34_ n35_ n36_ n37_ n38_;clear hb O_fr)
    have hw : wrap64 (i + 1) = i + 1:=by have h1:=HL.out;have h2:=HI2.out;unfold wrap64;omega
    go_roundg k1
    case measure => omega
    case rel => exact ⟨wrap64 (i + 1),fr2,rfl,⟨by have h2:=HI2.out;rw [hw];omega⟩,⟨by rw [hw];exact Q2.out⟩,O_f2,BS,B4,BC,O_d,O_t,O_c,HB⟩
  ·have cib : decide (i < (c.length : Int)) = false:=decide_eq_false ci
   have hfr : fr = a1:=by have h_:=HQ.out;rw [List.drop_eq_nil_of_le (by omega)] at h_;exact Option.some.inj h_
   subst hfr
   clear HQ ci HI2
   obtain ⟨Af,cf_,ef⟩:=Kd.R_slice O_fr.out
   subst ef
   go_wp2_with fail
   go_loopg [27] fr.length (fun kq v27 w' => ∃ (i : Int) (t3 : List S37) (vt : Value),v27 = .int .i64 i ∧ Aside0 (0 ≤ i ∧ i + kq = fr.length) ∧ Aside0 (supply_adds k t3 (fr.drop i.toNat) = some t2) ∧ Aside0 (Kd.R k37 37 w' w0.heap.size (fun _ => True) vt t3) ∧ Aside0 (w'.heap[g]? = some (.cells #[.int .u64 b,.slice B1 d.length q1,vt,.slice B3 c.length q3,.bool fin,.bool ft,.bool fc] 27 (0,0))) ∧ Aside0 (w'.heap[g4]? = some (.cells cs4 27 (0,0))) ∧ Aside0 (w'.heap[gc]? = some (.cells #[.int .u64 off,.slice Ac cl.length cc,.bool cf] 32 (0,0))) ∧ Aside0 (Kd.R (Kd.int .u8) 5 w' w0.heap.size (fun _ => True) (.slice B1 d.length q1) (d)) ∧ Aside0 (Kd.R k37 37 w' w0.heap.size (fun _ => True) (.slice B3 c.length q3) (c)) ∧ Aside0 (Kd.R k37 37 w' w0.heap.size (fun _ => True) (.slice Af fr.length cf_) (fr)) ∧ Aside0 (Below w0.heap.size w0 w'))
   case atStart => exact ⟨0,_,_,rfl,⟨by simp⟩,⟨by simpa using HT.out⟩,O_t,BS,B4,BC,O_d,O_c,O_fr,HB⟩
   case round =>
    clear O_t BS B4 BC O_d O_c O_fr HB
    obtain ⟨i,t3,vt,rfl,HI2,HQ,O_t3,BS,B4,BC,O_d,O_c,O_fr,HB⟩:=hrel
    obtain ⟨Bt,qt,et⟩:=Kd.R_slice O_t3.out
    subst et
    by_cases ci : i < (fr.length : Int)
    ·have cib2 : decide (i < (fr.length : Int)) = true:=decide_eq_true ci
     cases gk with
     | zero => exact absurd HI2.out.2 (by omega)
     | succ k1 =>
      have p0_ : 0 ≤ (i : Int):=HI2.out.1
      have q0_ : (i : Int) < (fr.length : Int):=ci
      obtain ⟨t4,Q1,Q2⟩ : ∃ t4,Aside0 (span_Add.f k t3 (rd_T37 fr i).f0 (rd_T37 fr i).f1 = some t4) ∧ Aside0 (supply_adds k t4 (fr.drop (i + 1).toNat) = some t2):=by
       have h_:=HQ.out
       have hi_ : i.toNat < fr.length:=by omega
       rw [List.drop_eq_getElem_cons hi_] at h_
       obtain ⟨fr2,f1,f2⟩:=Option.bind_eq_some_iff.mp h_
       have er : rd_T37 fr i = fr[i.toNat]:=by unfold rd_T37;simp [List.getD_eq_getElem?_getD,List.getElem?_eq_getElem hi_]
       rw [er,show (i + 1).toNat = i.toNat + 1 by omega]
       exact ⟨fr2,⟨f1⟩,⟨f2⟩⟩
      obtain ⟨ad,e_,hxa,hxb⟩:=at_T37 (Kd.R_reads' O_fr.out).2.2 (i : Int) p0_ q0_
      subst e_
      replace p0_:=eq_true p0_
      replace q0_:=eq_true q0_
      clear ci
      generalize (rd_T37 fr (i : Int)) = x at hxa hxb Q1
      go_upto_region 9 with (first
       | ((with_reducible refine gate_dst (N:=7) rfl ?_);refine box_event ?hg (N:=7) ?hd (cs:=#[.int .u64 0,.int .u64 0]) (t:=37) ?hr ?_;(case hd => rfl);(case hg => rfl);(case hr => first | (go_simp;done) | (go_simp;rfl));intro g7 hg w28 hbox hb;have GE_g7:=Aside0.mk (show w0.heap.size ≤ g7 by rw [hg];exact HB.out.size);have NB_g_g7 : g ≠ g7:=(by rw [hg];exact Nat.ne_of_lt (blk_lt BS.out));have NB_g7_g:=NB_g_g7.symm;have NB_g4_g7 : g4 ≠ g7:=(by rw [hg];exact Nat.ne_of_lt (blk_lt B4.out));have NB_g7_g4:=NB_g4_g7.symm;have NB_gc_g7 : gc ≠ g7:=(by rw [hg];exact Nat.ne_of_lt (blk_lt BC.out));have NB_g7_gc:=NB_gc_g7.symm;have n15_:=Aside0.mk (below_step HB.out hb);have n16_:=Aside0.mk (blk_below BS.out hb);have n17_:=Aside0.mk (blk_below B4.out hb);have n18_:=Aside0.mk (blk_below BC.out hb);have n19_:=Aside0.mk (Kd.R_below O_d.out hb);have n20_:=Aside0.mk (Kd.R_below (Kd.R_elderB O_c.out g7 (Nat.le_of_eq hg.symm)) hb);have n21_:=Aside0.mk (Kd.R_below (Kd.R_elderB O_fr.out g7 (Nat.le_of_eq hg.symm)) hb);have n22_:=Aside0.mk (Kd.R_below (Kd.R_elderB O_t3.out g7 (Nat.le_of_eq hg.symm)) hb);clear HB BS B4 BC O_d O_c O_fr O_t3;have HB:=n15_;have BS:=n16_;have B4:=n17_;have BC:=n18_;have O_d:=n19_;have O_c:=n20_;have O_fr:=n21_;have O_t3:=n22_;clear n15_ n16_ n17_ n18_ n19_ n20_ n21_ n22_;have BK_g7:=Aside0.mk hbox;clear hbox hb hg;obtain ⟨hx_g7_0,hf_g7_0,hx_g7_1,hf_g7_1⟩:=cells2 BK_g7.out))
      clear hx_g7_0 hf_g7_0 hx_g7_1 hf_g7_1
      have n23_ : Aside0 (((w28.setCell ⟨g7,0,none⟩ (.int .u64 x.f0)).setCell ⟨g7,1,none⟩ (.int .u64 x.f1)).heap[g7]? = some (.cells #[.int .u64 x.f0,.int .u64 x.f1] 37 (0,0))):=⟨blk_put (blk_put (BK_g7.out) 0 (.int .u64 x.f0) (cs':=#[.int .u64 x.f0,.int .u64 0]) rfl) 1 (.int .u64 x.f1) (cs':=#[.int .u64 x.f0,.int .u64 x.f1]) rfl⟩
      have n24_ : Aside0 (((w28.setCell ⟨g7,0,none⟩ (.int .u64 x.f0)).setCell ⟨g7,1,none⟩ (.int .u64 x.f1)).heap[g]? = some (.cells #[.int .u64 b,.slice B1 d.length q1,.slice Bt t3.length qt,.slice B3 c.length q3,.bool fin,.bool ft,.bool fc] 27 (0,0))):=⟨blk_far (p:=⟨g7,1,none⟩) (blk_far (p:=⟨g7,0,none⟩) (BS.out) NB_g_g7 (.int .u64 x.f0)) NB_g_g7 (.int .u64 x.f1)⟩
      have n25_ : Aside0 (((w28.setCell ⟨g7,0,none⟩ (.int .u64 x.f0)).setCell ⟨g7,1,none⟩ (.int .u64 x.f1)).heap[g4]? = some (.cells cs4 27 (0,0))):=⟨blk_far (p:=⟨g7,1,none⟩) (blk_far (p:=⟨g7,0,none⟩) (B4.out) NB_g4_g7 (.int .u64 x.f0)) NB_g4_g7 (.int .u64 x.f1)⟩
      have n26_ : Aside0 (((w28.setCell ⟨g7,0,none⟩ (.int .u64 x.f0)).setCell ⟨g7,1,none⟩ (.int .u64 x.f1)).heap[gc]? = some (.cells #[.int .u64 off,.slice Ac cl.length cc,.bool cf] 32 (0,0))):=⟨blk_far (p:=⟨g7,1,none⟩) (blk_far (p:=⟨g7,0,none⟩) (BC.out) NB_gc_g7 (.int .u64 x.f0)) NB_gc_g7 (.int .u64 x.f1)⟩
      have n27_ : Aside0 (Kd.R (Kd.int .u8) 5 ((w28.setCell ⟨g7,0,none⟩ (.int .u64 x.f0)).setCell ⟨g7,1,none⟩ (.int .u64 x.f1)) w0.heap.size (fun _ => True) (.slice B1 d.length q1) (d)):=⟨Kd.R_mono (Kd.R_far (p:=⟨g7,1,none⟩) (Kd.R_far (p:=⟨g7,0,none⟩) (Kd.R_types O_d.out BK_g7.out (ne_of rfl (by decide))) (fun _ hk => hk.2) (.int .u64 x.f0)) (fun _ hk => hk.2) (.int .u64 x.f1)) (fun _ _ => trivial)⟩
      have n28_ : Aside0 (Kd.R k37 37 ((w28.setCell ⟨g7,0,none⟩ (.int .u64 x.f0)).setCell ⟨g7,1,none⟩ (.int .u64 x.f1)) w0.heap.size (fun _ => True) (.slice B3 c.length q3) (c)):=⟨Kd.R_mono (Kd.R_far (p:=⟨g7,1,none⟩) (Kd.R_far (p:=⟨g7,0,none⟩) (O_c.out) (fun _ hk => hk.2) (.int .u64 x.f0)) (fun _ hk => hk.2) (.int .u64 x.f1)) (fun _ _ => trivial)⟩
      have n29_ : Aside0 (Kd.R k37 37 ((w28.setCell ⟨g7,0,none⟩ (.int .u64 x.f0)).setCell ⟨g7,1,none⟩ (.int .u64 x.f1)) w0.heap.size (fun _ => True) (.slice (some ad) fr.length cf_) (fr)):=⟨Kd.R_mono (Kd.R_far (p:=⟨g7,1,none⟩) (Kd.R_far (p:=⟨g7,0,none⟩) (O_fr.out) (fun _ hk => hk.2) (.int .u64 x.f0)) (fun _ hk => hk.2) (.int .u64 x.f1)) (fun _ _ => trivial)⟩
      have n30_ : Aside0 (Kd.R k37 37 ((w28.setCell ⟨g7,0,none⟩ (.int .u64 x.f0)).setCell ⟨g7,1,none⟩ (.int .u64 x.f1)) w0.heap.size (fun _ => True) (.slice Bt t3.length qt) (t3)):=⟨Kd.R_mono (Kd.R_far (p:=⟨g7,1,none⟩) (Kd.R_far (p:=⟨g7,0,none⟩) (O_t3.out) (fun _ hk => hk.2) (.int .u64 x.f0)) (fun _ hk => hk.2) (.int .u64 x.f1)) (fun _ _ => trivial)⟩
      have n31_ : Aside0 (Below w0.heap.size w0 ((w28.setCell ⟨g7,0,none⟩ (.int .u64 x.f0)).setCell ⟨g7,1,none⟩ (.int .u64 x.f1))):=⟨below_set (below_set (HB.out) GE_g7.out (j:=0) (v:=.int .u64 x.f0)) GE_g7.out (j:=1) (v:=.int .u64 x.f1)⟩
      clear BK_g7 BS B4 BC O_d O_c O_fr O_t3 HB
      have BK_g7:=n23_
      have BS:=n24_
      have B4:=n25_
      have BC:=n26_
      have O_d:=n27_
      have O_c:=n28_
      have O_fr:=n29_
      have O_t3:=n30_
      have HB:=n31_
      clear n23_ n24_ n25_ n26_ n27_ n28_ n29_ n30_ n31_
      generalize ((w28.setCell ⟨g7,0,none⟩ (.int .u64 x.f0)).setCell ⟨g7,1,none⟩ (.int .u64 x.f1)) = w29 at BK_g7 BS B4 BC O_d O_c O_fr O_t3 HB ⊢
      have n32_:=Aside0.mk (below_drew1 HB.out)
      have n33_:=Aside0.mk (blk_drew BS.out)
      have n34_:=Aside0.mk (blk_drew B4.out)
      have n35_:=Aside0.mk (blk_drew BC.out)
      have n36_:=Aside0.mk (blk_drew BK_g7.out)
      have n37_:=Aside0.mk (Kd.R_drew O_d.out)
      have n38_:=Aside0.mk (Kd.R_drew O_c.out)
      have n39_:=Aside0.mk (Kd.R_drew O_fr.out)
      have n40_:=Aside0.mk (Kd.R_drew O_t3.out)
      clear HB BS B4 BC BK_g7 O_d O_c O_fr O_t3
      have HB:=n32_
      have BS:=n33_
      have B4:=n34_
      have BC:=n35_
      have BK_g7:=n36_
      have O_d:=n37_
      have O_c:=n38_
      have O_fr:=n39_
      have O_t3:=n40_
      clear n32_ n33_ n34_ n35_ n36_ n37_ n38_ n39_ n40_
      (try simp only [Act.put,List.setIfInBounds_toArray,List.set_cons_zero,List.set_cons_succ])
      refine start_ (n:=10) (S:=fun w' => w'.cell? ⟨g,0,none⟩ = some (.int .u64 b) ∧ w'.cell? ⟨g,1,none⟩ = some (.slice B1 d.length q1) ∧ w'.cell? ⟨g,2,none⟩ = some (.slice Bt t3.length qt) ∧ w'.cell? ⟨g,3,none⟩ = some (.slice B3 c.length q3) ∧ w'.cell? ⟨g,4,none⟩ = some (.bool fin) ∧ w'.cell? ⟨g,5,none⟩ = some (.bool ft) ∧ w'.cell? ⟨g,6,none⟩ = some (.bool fc) ∧ w'.cell? ⟨g7,0,none⟩ = some (.int .u64 x.f0) ∧ w'.cell? ⟨g7,1,none⟩ = some (.int .u64 x.f1)) (ds:=[9]) #[false,false,false,false,false,false,false,false,false,false] (by kernel_rfl) rfl rfl ⟨(blk_cell BS.out 0).trans rfl,(blk_cell BS.out 1).trans rfl,(blk_cell BS.out 2).trans rfl,(blk_cell BS.out 3).trans rfl,(blk_cell BS.out 4).trans rfl,(blk_cell BS.out 5).trans rfl,(blk_cell BS.out 6).trans rfl,(blk_cell BK_g7.out 0).trans rfl,(blk_cell BK_g7.out 1).trans rfl⟩ (fun hHeld => ?_)
      generalize w29.drew = w30 at HB BS B4 BC BK_g7 O_d O_c O_fr O_t3 hHeld ⊢
      refine pure_ (i:=0) (N:=some 31) (v:=?_) (a':=?_) #[true,false,false,false,false,false,false,false,false,false] rfl rfl (by kernel_rfl) (fun _ _ _ h => h) (Or.inl ⟨by rfl,?_⟩) ?_ ?_
      rotate_left
      ·intro w'
       go_simp
       with_reducible rfl
      rotate_left
      ·simp only [Act.put,List.setIfInBounds_toArray,List.set_cons_zero,List.set_cons_succ,i64_w,i32_w]
       rfl
      refine pure_ (i:=1) (N:=some 32) (v:=?_) (a':=?_) #[true,true,false,false,false,false,false,false,false,false] rfl rfl (by kernel_rfl) (fun _ _ _ h => h) (Or.inl ⟨by rfl,?_⟩) ?_ ?_
      rotate_left
      ·intro w'
       go_simp
       with_reducible rfl
      rotate_left
      ·simp only [Act.put,List.setIfInBounds_toArray,List.set_cons_zero,List.set_cons_succ,i64_w,i32_w]
       rfl
      refine pure_ (i:=2) (N:=some 33) (v:=?_) (a':=?_) #[true,true,true,false,false,false,false,false,false,false] rfl rfl (by kernel_rfl) (fun _ _ _ h => h) (Or.inl ⟨by rfl,?_⟩) ?_ ?_
      rotate_left
      ·intro w'
       go_simp
       with_reducible rfl
      rotate_left
      ·simp only [Act.put,List.setIfInBounds_toArray,List.set_cons_zero,List.set_cons_succ,i64_w,i32_w]
       rfl
      refine pure_ (i:=3) (N:=some 34) (v:=?_) (a':=?_) #[true,true,true,true,false,false,false,false,false,false] rfl rfl (by kernel_rfl) (fun _ _ _ h => h) (Or.inl ⟨by rfl,?_⟩) ?_ ?_
      rotate_left
      ·intro w'
       go_simp
       with_reducible rfl
      rotate_left
      ·simp only [Act.put,List.setIfInBounds_toArray,List.set_cons_zero,List.set_cons_succ,i64_w,i32_w]
       rfl
      refine take_ (i:=4) (N:=some 35) (v:=?_) (a':=?_) #[true,true,true,true,true,false,false,false,false,false] rfl rfl (by kernel_rfl) (fun _ _ _ h => h) (Or.inl ⟨by rfl,?_⟩) hHeld ?_ ?_
      rotate_left
      ·rintro w' ⟨s0,s1,s2,s3,s4,s5,s6,s7,s8⟩
       go_simp
       with_reducible rfl
      rotate_left
      ·simp only [Act.put,List.setIfInBounds_toArray,List.set_cons_zero,List.set_cons_succ,i64_w,i32_w]
       rfl
      refine take_ (i:=5) (N:=some 36) (v:=?_) (a':=?_) #[true,true,true,true,true,true,false,false,false,false] rfl rfl (by kernel_rfl) (fun _ _ _ h => h) (Or.inl ⟨by rfl,?_⟩) hHeld ?_ ?_
      rotate_left
      ·rintro w' ⟨s0,s1,s2,s3,s4,s5,s6,s7,s8⟩
       go_simp
       with_reducible rfl
      rotate_left
      ·simp only [Act.put,List.setIfInBounds_toArray,List.set_cons_zero,List.set_cons_succ,i64_w,i32_w]
       rfl
      refine one_ (i:=6) (N:=some 37) #[true,true,true,true,true,true,true,false,false,false] rfl rfl (by kernel_rfl) (by decide) (fun K hK => ?_)
      refine goes_ Try.func21 (by kernel_rfl) rfl #[.slice Bt t3.length qt,.agg #[.int .u64 x.f0,.int .u64 x.f1]] (by rfl) rfl rfl (by (try simp only [List.map_toArray,List.map_cons,List.map_nil]);first | done | rfl) ?_
      refine (span_Add.calls k Bt qt t3 x.f0 x.f1 t4 _ (Kd.R_reads' O_t3.out).2.2 (Kd.R_reads' O_t3.out).2.1 Q1.out).mono ?_
      rintro e_ w31 ⟨u_,rfl,ho,hb⟩
      refine ⟨_,rfl,?_⟩
      have O_t4:=Aside0.mk (Kd.R_lower ho HB.out.size)
      clear ho
      have n41_:=Aside0.mk (below_step HB.out hb)
      have n42_:=Aside0.mk (blk_below BS.out hb)
      have n43_:=Aside0.mk (blk_below B4.out hb)
      have n44_:=Aside0.mk (blk_below BC.out hb)
      have n45_:=Aside0.mk (blk_below BK_g7.out hb)
      have n46_:=Aside0.mk (Kd.R_below O_d.out hb)
      have n47_:=Aside0.mk (Kd.R_below O_c.out hb)
      have n48_:=Aside0.mk (Kd.R_below O_fr.out hb)
      have n49_:=Aside0.mk (Kd.R_below O_t3.out hb)
      clear HB BS B4 BC BK_g7 O_d O_c O_fr O_t3
      have HB:=n41_
      have BS:=n42_
      have B4:=n43_
      have BC:=n44_
      have BK_g7:=n45_
      have O_d:=n46_
      have O_c:=n47_
      have O_fr:=n48_
      have O_t3:=n49_
      clear n41_ n42_ n43_ n44_ n45_ n46_ n47_ n48_ n49_
      clear hb
      obtain ⟨Bu,qu,eo⟩:=Kd.R_slice O_t4.out
      subst eo
      obtain ⟨hx_g_0,hf_g_0,hx_g_1,hf_g_1,hx_g_2,hf_g_2,hx_g_3,hf_g_3,hx_g_4,hf_g_4,hx_g_5,hf_g_5,hx_g_6,hf_g_6⟩:=cells7 BS.out
      refine hK.out _ _ ⟨(blk_cell BS.out 0).trans rfl,(blk_cell BS.out 1).trans rfl,(blk_cell BS.out 2).trans rfl,(blk_cell BS.out 3).trans rfl,(blk_cell BS.out 4).trans rfl,(blk_cell BS.out 5).trans rfl,(blk_cell BS.out 6).trans rfl,(blk_cell BK_g7.out 0).trans rfl,(blk_cell BK_g7.out 1).trans rfl⟩ (fun hHeld => ?_)
      clear hK K
      refine norm_ (a':=?_) ?_ ?_
      rotate_left
      ·show Act.put _ (some 37) _ = _
       simp only [Act.put,List.setIfInBounds_toArray,List.set_cons_zero,List.set_cons_succ,i64_w,i32_w]
       rfl
      refine pure_ (i:=7) (N:=some 38) (v:=?_) (a':=?_) #[true,true,true,true,true,true,true,true,false,false] rfl rfl (by kernel_rfl) (fun _ _ _ h => h) (Or.inl ⟨by rfl,?_⟩) ?_ ?_
      rotate_left
      ·intro w'
       go_simp
       with_reducible rfl
      rotate_left
      ·simp only [Act.put,List.setIfInBounds_toArray,List.set_cons_zero,List.set_cons_succ,i64_w,i32_w]
       rfl
      refine pure_ (i:=8) (N:=some 39) (v:=?_) (a':=?_) #[true,true,true,true,true,true,true,true,true,false] rfl rfl (by kernel_rfl) (fun _ _ _ h => h) (Or.inl ⟨by rfl,?_⟩) ?_ ?_
      rotate_left
      ·intro w'
       go_simp
       with_reducible rfl
      rotate_left
      ·simp only [Act.put,List.setIfInBounds_toArray,List.set_cons_zero,List.set_cons_succ,i64_w,i32_w]
       rfl
      refine last_ (i:=9) (N:=none) #[true,true,true,true,true,true,true,true,true,true] rfl rfl (by kernel_rfl) (by decide) (fun K hK => ?_)
      refine skip_ (w1:=?_) (by rfl) rfl ?_ ?_
      rotate_left
      ·go_simp
       rfl
      refine hK.out _ _ ?_
      clear hK K
      refine done_ (by kernel_rfl) ?_
      clear O_t3
      clear hx_g_0 hf_g_0 hx_g_1 hf_g_1 hx_g_2 hf_g_2 hx_g_3 hf_g_3 hx_g_4 hf_g_4 hx_g_5 hf_g_5 hx_g_6 hf_g_6
      have n50_ : Aside0 ((w31.setCell ⟨g,2,none⟩ (.slice Bu t4.length qu)).heap[g]? = some (.cells #[.int .u64 b,.slice B1 d.length q1,.slice Bu t4.length qu,.slice B3 c.length q3,.bool fin,.bool ft,.bool fc] 27 (0,0))):=⟨blk_put (BS.out) 2 (.slice Bu t4.length qu) (cs':=#[.int .u64 b,.slice B1 d.length q1,.slice Bu t4.length qu,.slice B3 c.length q3,.bool fin,.bool ft,.bool fc]) rfl⟩
      have n51_ : Aside0 ((w31.setCell ⟨g,2,none⟩ (.slice Bu t4.length qu)).heap[g4]? = some (.cells cs4 27 (0,0))):=⟨blk_far (p:=⟨g,2,none⟩) (B4.out) hne.symm (.slice Bu t4.length qu)⟩
      have n52_ : Aside0 ((w31.setCell ⟨g,2,none⟩ (.slice Bu t4.length qu)).heap[gc]? = some (.cells #[.int .u64 off,.slice Ac cl.length cc,.bool cf] 32 (0,0))):=⟨blk_far (p:=⟨g,2,none⟩) (BC.out) NE_gc (.slice Bu t4.length qu)⟩
      have n53_ : Aside0 ((w31.setCell ⟨g,2,none⟩ (.slice Bu t4.length qu)).heap[g7]? = some (.cells #[.int .u64 x.f0,.int .u64 x.f1] 37 (0,0))):=⟨blk_far (p:=⟨g,2,none⟩) (BK_g7.out) NB_g7_g (.slice Bu t4.length qu)⟩
      have n54_ : Aside0 (Kd.R (Kd.int .u8) 5 (w31.setCell ⟨g,2,none⟩ (.slice Bu t4.length qu)) w0.heap.size (fun _ => True) (.slice B1 d.length q1) (d)):=⟨Kd.R_mono (Kd.R_far (p:=⟨g,2,none⟩) (Kd.R_types O_d.out BS.out (ne_of rfl (by decide))) (fun _ hk => hk.2) (.slice Bu t4.length qu)) (fun _ _ => trivial)⟩
      have n55_ : Aside0 (Kd.R k37 37 (w31.setCell ⟨g,2,none⟩ (.slice Bu t4.length qu)) w0.heap.size (fun _ => True) (.slice B3 c.length q3) (c)):=⟨Kd.R_mono (Kd.R_far (p:=⟨g,2,none⟩) (Kd.R_types O_c.out BS.out (ne_of rfl (by decide))) (fun _ hk => hk.2) (.slice Bu t4.length qu)) (fun _ _ => trivial)⟩
      have n56_ : Aside0 (Kd.R k37 37 (w31.setCell ⟨g,2,none⟩ (.slice Bu t4.length qu)) w0.heap.size (fun _ => True) (.slice (some ad) fr.length cf_) (fr)):=⟨Kd.R_mono (Kd.R_far (p:=⟨g,2,none⟩) (Kd.R_types O_fr.out BS.out (ne_of rfl (by decide))) (fun _ hk => hk.2) (.slice Bu t4.length qu)) (fun _ _ => trivial)⟩
      have n57_ : Aside0 (Kd.R k37 37 (w31.setCell ⟨g,2,none⟩ (.slice Bu t4.length qu)) w0.heap.size (fun _ => True) (.slice Bu t4.length qu) (t4)):=⟨Kd.R_mono (Kd.R_far (p:=⟨g,2,none⟩) (Kd.R_types O_t4.out BS.out (ne_of rfl (by decide))) (fun _ hk => hk.2) (.slice Bu t4.length qu)) (fun _ _ => trivial)⟩
      have n58_ : Aside0 (Below w0.heap.size w0 (w31.setCell ⟨g,2,none⟩ (.slice Bu t4.length qu))):=⟨below_set (HB.out) GE.out (j:=2) (v:=.slice Bu t4.length qu)⟩
      clear BS B4 BC BK_g7 O_d O_c O_fr O_t4 HB
      have BS:=n50_
      have B4:=n51_
      have BC:=n52_
      have BK_g7:=n53_
      have O_d:=n54_
      have O_c:=n55_
      have O_fr:=n56_
      have O_t4:=n57_
      have HB:=n58_
      clear n50_ n51_ n52_ n53_ n54_ n55_ n56_ n57_ n58_
      generalize (w31.setCell ⟨g,2,none⟩ (.slice Bu t4.length qu)) = w32 at BS B4 BC BK_g7 O_d O_c O_fr O_t4 HB ⊢
      go_wp2
      have hw : wrap64 (i + 1) = i + 1:=by have h1:=HL.out;have h2:=HI2.out;unfold wrap64;omega
      go_roundg k1
      case measure => omega
      case rel => exact ⟨wrap64 (i + 1),t4,_,rfl,⟨by have h2:=HI2.out;rw [hw];omega⟩,⟨by rw [hw];exact Q2.out⟩,O_t4,BS,B4,BC,O_d,O_c,O_fr,HB⟩
    ·have cib2 : decide (i < (fr.length : Int)) = false:=decide_eq_false ci
     have hfr : t3 = t2:=by have h_:=HQ.out;rw [List.drop_eq_nil_of_le (by omega)] at h_;exact Option.some.inj h_
     subst hfr
     clear HQ ci HI2
     cases ft with
     | false =>
      cases cf with
      | false =>
       cases fin with
       | false =>
        cases fc with
        | false =>
         obtain ⟨hx_g_0,hf_g_0,hx_g_1,hf_g_1,hx_g_2,hf_g_2,hx_g_3,hf_g_3,hx_g_4,hf_g_4,hx_g_5,hf_g_5,hx_g_6,hf_g_6⟩:=cells7 BS.out
         obtain ⟨hx_gc_0,hf_gc_0,hx_gc_1,hf_gc_1,hx_gc_2,hf_gc_2⟩:=cells3 BC.out
         go_wp2
         first | go_end0 | ((try simp only [Exit.inBlock,Exit.then]);refine bodyPost_ret (results_none rfl _ _ _) rfl ?_)
         exact ⟨rfl,_,blk_put (BS.out) 5 (.bool false) (cs':=#[.int .u64 b,.slice B1 d.length q1,.slice Bt t3.length qt,.slice B3 c.length q3,.bool false,.bool false,.bool false]) rfl,blk_far (p:=⟨g,5,none⟩) (B4.out) hne.symm (.bool false),Kd.R_mono (Kd.R_far (p:=⟨g,5,none⟩) (Kd.R_types O_d.out BS.out (ne_of rfl (by decide))) (fun _ hk => hk.2) (.bool false)) (fun _ _ => trivial),Kd.R_mono (Kd.R_far (p:=⟨g,5,none⟩) (Kd.R_types O_t3.out BS.out (ne_of rfl (by decide))) (fun _ hk => hk.2) (.bool false)) (fun _ _ => trivial),Kd.R_mono (Kd.R_far (p:=⟨g,5,none⟩) (Kd.R_types O_c.out BS.out (ne_of rfl (by decide))) (fun _ hk => hk.2) (.bool false)) (fun _ _ => trivial),below_set (HB.out) GE.out (j:=5) (v:=.bool false)⟩
        | true =>
         obtain ⟨hx_g_0,hf_g_0,hx_g_1,hf_g_1,hx_g_2,hf_g_2,hx_g_3,hf_g_3,hx_g_4,hf_g_4,hx_g_5,hf_g_5,hx_g_6,hf_g_6⟩:=cells7 BS.out
         obtain ⟨hx_gc_0,hf_gc_0,hx_gc_1,hf_gc_1,hx_gc_2,hf_gc_2⟩:=cells3 BC.out
         go_wp2
         first | go_end0 | ((try simp only [Exit.inBlock,Exit.then]);refine bodyPost_ret (results_none rfl _ _ _) rfl ?_)
         exact ⟨rfl,_,blk_put (BS.out) 5 (.bool false) (cs':=#[.int .u64 b,.slice B1 d.length q1,.slice Bt t3.length qt,.slice B3 c.length q3,.bool false,.bool false,.bool true]) rfl,blk_far (p:=⟨g,5,none⟩) (B4.out) hne.symm (.bool false),Kd.R_mono (Kd.R_far (p:=⟨g,5,none⟩) (Kd.R_types O_d.out BS.out (ne_of rfl (by decide))) (fun _ hk => hk.2) (.bool false)) (fun _ _ => trivial),Kd.R_mono (Kd.R_far (p:=⟨g,5,none⟩) (Kd.R_types O_t3.out BS.out (ne_of rfl (by decide))) (fun _ hk => hk.2) (.bool false)) (fun _ _ => trivial),Kd.R_mono (Kd.R_far (p:=⟨g,5,none⟩) (Kd.R_types O_c.out BS.out (ne_of rfl (by decide))) (fun _ hk => hk.2) (.bool false)) (fun _ _ => trivial),below_set (HB.out) GE.out (j:=5) (v:=.bool false)⟩
       | true =>
        cases fc with
        | false =>
         obtain ⟨hx_g_0,hf_g_0,hx_g_1,hf_g_1,hx_g_2,hf_g_2,hx_g_3,hf_g_3,hx_g_4,hf_g_4,hx_g_5,hf_g_5,hx_g_6,hf_g_6⟩:=cells7 BS.out
         obtain ⟨hx_gc_0,hf_gc_0,hx_gc_1,hf_gc_1,hx_gc_2,hf_gc_2⟩:=cells3 BC.out
         go_wp2
         first | go_end0 | ((try simp only [Exit.inBlock,Exit.then]);refine bodyPost_ret (results_none rfl _ _ _) rfl ?_)
         exact ⟨rfl,_,blk_put (BS.out) 5 (.bool false) (cs':=#[.int .u64 b,.slice B1 d.length q1,.slice Bt t3.length qt,.slice B3 c.length q3,.bool true,.bool false,.bool false]) rfl,blk_far (p:=⟨g,5,none⟩) (B4.out) hne.symm (.bool false),Kd.R_mono (Kd.R_far (p:=⟨g,5,none⟩) (Kd.R_types O_d.out BS.out (ne_of rfl (by decide))) (fun _ hk => hk.2) (.bool false)) (fun _ _ => trivial),Kd.R_mono (Kd.R_far (p:=⟨g,5,none⟩) (Kd.R_types O_t3.out BS.out (ne_of rfl (by decide))) (fun _ hk => hk.2) (.bool false)) (fun _ _ => trivial),Kd.R_mono (Kd.R_far (p:=⟨g,5,none⟩) (Kd.R_types O_c.out BS.out (ne_of rfl (by decide))) (fun _ hk => hk.2) (.bool false)) (fun _ _ => trivial),below_set (HB.out) GE.out (j:=5) (v:=.bool false)⟩
        | true =>
         obtain ⟨hx_g_0,hf_g_0,hx_g_1,hf_g_1,hx_g_2,hf_g_2,hx_g_3,hf_g_3,hx_g_4,hf_g_4,hx_g_5,hf_g_5,hx_g_6,hf_g_6⟩:=cells7 BS.out
         obtain ⟨hx_gc_0,hf_gc_0,hx_gc_1,hf_gc_1,hx_gc_2,hf_gc_2⟩:=cells3 BC.out
         go_wp2
         first | go_end0 | ((try simp only [Exit.inBlock,Exit.then]);refine bodyPost_ret (results_none rfl _ _ _) rfl ?_)
         exact ⟨rfl,_,blk_put (BS.out) 5 (.bool false) (cs':=#[.int .u64 b,.slice B1 d.length q1,.slice Bt t3.length qt,.slice B3 c.length q3,.bool true,.bool false,.bool true]) rfl,blk_far (p:=⟨g,5,none⟩) (B4.out) hne.symm (.bool false),Kd.R_mono (Kd.R_far (p:=⟨g,5,none⟩) (Kd.R_types O_d.out BS.out (ne_of rfl (by decide))) (fun _ hk => hk.2) (.bool false)) (fun _ _ => trivial),Kd.R_mono (Kd.R_far (p:=⟨g,5,none⟩) (Kd.R_types O_t3.out BS.out (ne_of rfl (by decide))) (fun _ hk => hk.2) (.bool false)) (fun _ _ => trivial),Kd.R_mono (Kd.R_far (p:=⟨g,5,none⟩) (Kd.R_types O_c.out BS.out (ne_of rfl (by decide))) (fun _ hk => hk.2) (.bool false)) (fun _ _ => trivial),below_set (HB.out) GE.out (j:=5) (v:=.bool false)⟩
      | true =>
       cases fin with
       | false =>
        cases fc with
        | false =>
         obtain ⟨hx_g_0,hf_g_0,hx_g_1,hf_g_1,hx_g_2,hf_g_2,hx_g_3,hf_g_3,hx_g_4,hf_g_4,hx_g_5,hf_g_5,hx_g_6,hf_g_6⟩:=cells7 BS.out
         obtain ⟨hx_gc_0,hf_gc_0,hx_gc_1,hf_gc_1,hx_gc_2,hf_gc_2⟩:=cells3 BC.out
         go_wp2
         first | go_end0 | ((try simp only [Exit.inBlock,Exit.then]);refine bodyPost_ret (results_none rfl _ _ _) rfl ?_)
         exact ⟨rfl,_,blk_put (BS.out) 5 (.bool false) (cs':=#[.int .u64 b,.slice B1 d.length q1,.slice Bt t3.length qt,.slice B3 c.length q3,.bool false,.bool false,.bool false]) rfl,blk_far (p:=⟨g,5,none⟩) (B4.out) hne.symm (.bool false),Kd.R_mono (Kd.R_far (p:=⟨g,5,none⟩) (Kd.R_types O_d.out BS.out (ne_of rfl (by decide))) (fun _ hk => hk.2) (.bool false)) (fun _ _ => trivial),Kd.R_mono (Kd.R_far (p:=⟨g,5,none⟩) (Kd.R_types O_t3.out BS.out (ne_of rfl (by decide))) (fun _ hk => hk.2) (.bool false)) (fun _ _ => trivial),Kd.R_mono (Kd.R_far (p:=⟨g,5,none⟩) (Kd.R_types O_c.out BS.out (ne_of rfl (by decide))) (fun _ hk => hk.2) (.bool false)) (fun _ _ => trivial),below_set (HB.out) GE.out (j:=5) (v:=.bool false)⟩
        | true =>
         obtain ⟨hx_g_0,hf_g_0,hx_g_1,hf_g_1,hx_g_2,hf_g_2,hx_g_3,hf_g_3,hx_g_4,hf_g_4,hx_g_5,hf_g_5,hx_g_6,hf_g_6⟩:=cells7 BS.out
         obtain ⟨hx_gc_0,hf_gc_0,hx_gc_1,hf_gc_1,hx_gc_2,hf_gc_2⟩:=cells3 BC.out
         go_wp2
         first | go_end0 | ((try simp only [Exit.inBlock,Exit.then]);refine bodyPost_ret (results_none rfl _ _ _) rfl ?_)
         exact ⟨rfl,_,blk_put (BS.out) 5 (.bool false) (cs':=#[.int .u64 b,.slice B1 d.length q1,.slice Bt t3.length qt,.slice B3 c.length q3,.bool false,.bool false,.bool true]) rfl,blk_far (p:=⟨g,5,none⟩) (B4.out) hne.symm (.bool false),Kd.R_mono (Kd.R_far (p:=⟨g,5,none⟩) (Kd.R_types O_d.out BS.out (ne_of rfl (by decide))) (fun _ hk => hk.2) (.bool false)) (fun _ _ => trivial),Kd.R_mono (Kd.R_far (p:=⟨g,5,none⟩) (Kd.R_types O_t3.out BS.out (ne_of rfl (by decide))) (fun _ hk => hk.2) (.bool false)) (fun _ _ => trivial),Kd.R_mono (Kd.R_far (p:=⟨g,5,none⟩) (Kd.R_types O_c.out BS.out (ne_of rfl (by decide))) (fun _ hk => hk.2) (.bool false)) (fun _ _ => trivial),below_set (HB.out) GE.out (j:=5) (v:=.bool false)⟩
       | true =>
        cases fc with
        | false =>
         obtain ⟨hx_g_0,hf_g_0,hx_g_1,hf_g_1,hx_g_2,hf_g_2,hx_g_3,hf_g_3,hx_g_4,hf_g_4,hx_g_5,hf_g_5,hx_g_6,hf_g_6⟩:=cells7 BS.out
         obtain ⟨hx_gc_0,hf_gc_0,hx_gc_1,hf_gc_1,hx_gc_2,hf_gc_2⟩:=cells3 BC.out
         go_wp2
         first | go_end0 | ((try simp only [Exit.inBlock,Exit.then]);refine bodyPost_ret (results_none rfl _ _ _) rfl ?_)
         exact ⟨rfl,_,blk_put (BS.out) 5 (.bool true) (cs':=#[.int .u64 b,.slice B1 d.length q1,.slice Bt t3.length qt,.slice B3 c.length q3,.bool true,.bool true,.bool false]) rfl,blk_far (p:=⟨g,5,none⟩) (B4.out) hne.symm (.bool true),Kd.R_mono (Kd.R_far (p:=⟨g,5,none⟩) (Kd.R_types O_d.out BS.out (ne_of rfl (by decide))) (fun _ hk => hk.2) (.bool true)) (fun _ _ => trivial),Kd.R_mono (Kd.R_far (p:=⟨g,5,none⟩) (Kd.R_types O_t3.out BS.out (ne_of rfl (by decide))) (fun _ hk => hk.2) (.bool true)) (fun _ _ => trivial),Kd.R_mono (Kd.R_far (p:=⟨g,5,none⟩) (Kd.R_types O_c.out BS.out (ne_of rfl (by decide))) (fun _ hk => hk.2) (.bool true)) (fun _ _ => trivial),below_set (HB.out) GE.out (j:=5) (v:=.bool true)⟩
        | true =>
         obtain ⟨hx_g_0,hf_g_0,hx_g_1,hf_g_1,hx_g_2,hf_g_2,hx_g_3,hf_g_3,hx_g_4,hf_g_4,hx_g_5,hf_g_5,hx_g_6,hf_g_6⟩:=cells7 BS.out
         obtain ⟨hx_gc_0,hf_gc_0,hx_gc_1,hf_gc_1,hx_gc_2,hf_gc_2⟩:=cells3 BC.out
         go_wp2
         first | go_end0 | ((try simp only [Exit.inBlock,Exit.then]);refine bodyPost_ret (results_none rfl _ _ _) rfl ?_)
         exact ⟨rfl,_,blk_put (BS.out) 5 (.bool false) (cs':=#[.int .u64 b,.slice B1 d.length q1,.slice Bt t3.length qt,.slice B3 c.length q3,.bool true,.bool false,.bool true]) rfl,blk_far (p:=⟨g,5,none⟩) (B4.out) hne.symm (.bool false),Kd.R_mono (Kd.R_far (p:=⟨g,5,none⟩) (Kd.R_types O_d.out BS.out (ne_of rfl (by decide))) (fun _ hk => hk.2) (.bool false)) (fun _ _ => trivial),Kd.R_mono (Kd.R_far (p:=⟨g,5,none⟩) (Kd.R_types O_t3.out BS.out (ne_of rfl (by decide))) (fun _ hk => hk.2) (.bool false)) (fun _ _ => trivial),Kd.R_mono (Kd.R_far (p:=⟨g,5,none⟩) (Kd.R_types O_c.out BS.out (ne_of rfl (by decide))) (fun _ hk => hk.2) (.bool false)) (fun _ _ => trivial),below_set (HB.out) GE.out (j:=5) (v:=.bool false)⟩
     | true =>
      cases cf with
      | false =>
       cases fin with
       | false =>
        cases fc with
        | false =>
         obtain ⟨hx_g_0,hf_g_0,hx_g_1,hf_g_1,hx_g_2,hf_g_2,hx_g_3,hf_g_3,hx_g_4,hf_g_4,hx_g_5,hf_g_5,hx_g_6,hf_g_6⟩:=cells7 BS.out
         obtain ⟨hx_gc_0,hf_gc_0,hx_gc_1,hf_gc_1,hx_gc_2,hf_gc_2⟩:=cells3 BC.out
         go_wp2
         first | go_end0 | ((try simp only [Exit.inBlock,Exit.then]);refine bodyPost_ret (results_none rfl _ _ _) rfl ?_)
         exact ⟨rfl,_,blk_put (BS.out) 5 (.bool true) (cs':=#[.int .u64 b,.slice B1 d.length q1,.slice Bt t3.length qt,.slice B3 c.length q3,.bool false,.bool true,.bool false]) rfl,blk_far (p:=⟨g,5,none⟩) (B4.out) hne.symm (.bool true),Kd.R_mono (Kd.R_far (p:=⟨g,5,none⟩) (Kd.R_types O_d.out BS.out (ne_of rfl (by decide))) (fun _ hk => hk.2) (.bool true)) (fun _ _ => trivial),Kd.R_mono (Kd.R_far (p:=⟨g,5,none⟩) (Kd.R_types O_t3.out BS.out (ne_of rfl (by decide))) (fun _ hk => hk.2) (.bool true)) (fun _ _ => trivial),Kd.R_mono (Kd.R_far (p:=⟨g,5,none⟩) (Kd.R_types O_c.out BS.out (ne_of rfl (by decide))) (fun _ hk => hk.2) (.bool true)) (fun _ _ => trivial),below_set (HB.out) GE.out (j:=5) (v:=.bool true)⟩
        | true =>
         obtain ⟨hx_g_0,hf_g_0,hx_g_1,hf_g_1,hx_g_2,hf_g_2,hx_g_3,hf_g_3,hx_g_4,hf_g_4,hx_g_5,hf_g_5,hx_g_6,hf_g_6⟩:=cells7 BS.out
         obtain ⟨hx_gc_0,hf_gc_0,hx_gc_1,hf_gc_1,hx_gc_2,hf_gc_2⟩:=cells3 BC.out
         go_wp2
         first | go_end0 | ((try simp only [Exit.inBlock,Exit.then]);refine bodyPost_ret (results_none rfl _ _ _) rfl ?_)
         exact ⟨rfl,_,blk_put (BS.out) 5 (.bool true) (cs':=#[.int .u64 b,.slice B1 d.length q1,.slice Bt t3.length qt,.slice B3 c.length q3,.bool false,.bool true,.bool true]) rfl,blk_far (p:=⟨g,5,none⟩) (B4.out) hne.symm (.bool true),Kd.R_mono (Kd.R_far (p:=⟨g,5,none⟩) (Kd.R_types O_d.out BS.out (ne_of rfl (by decide))) (fun _ hk => hk.2) (.bool true)) (fun _ _ => trivial),Kd.R_mono (Kd.R_far (p:=⟨g,5,none⟩) (Kd.R_types O_t3.out BS.out (ne_of rfl (by decide))) (fun _ hk => hk.2) (.bool true)) (fun _ _ => trivial),Kd.R_mono (Kd.R_far (p:=⟨g,5,none⟩) (Kd.R_types O_c.out BS.out (ne_of rfl (by decide))) (fun _ hk => hk.2) (.bool true)) (fun _ _ => trivial),below_set (HB.out) GE.out (j:=5) (v:=.bool true)⟩
       | true =>
        cases fc with
        | false =>
         obtain ⟨hx_g_0,hf_g_0,hx_g_1,hf_g_1,hx_g_2,hf_g_2,hx_g_3,hf_g_3,hx_g_4,hf_g_4,hx_g_5,hf_g_5,hx_g_6,hf_g_6⟩:=cells7 BS.out
         obtain ⟨hx_gc_0,hf_gc_0,hx_gc_1,hf_gc_1,hx_gc_2,hf_gc_2⟩:=cells3 BC.out
         go_wp2
         first | go_end0 | ((try simp only [Exit.inBlock,Exit.then]);refine bodyPost_ret (results_none rfl _ _ _) rfl ?_)
         exact ⟨rfl,_,blk_put (BS.out) 5 (.bool true) (cs':=#[.int .u64 b,.slice B1 d.length q1,.slice Bt t3.length qt,.slice B3 c.length q3,.bool true,.bool true,.bool false]) rfl,blk_far (p:=⟨g,5,none⟩) (B4.out) hne.symm (.bool true),Kd.R_mono (Kd.R_far (p:=⟨g,5,none⟩) (Kd.R_types O_d.out BS.out (ne_of rfl (by decide))) (fun _ hk => hk.2) (.bool true)) (fun _ _ => trivial),Kd.R_mono (Kd.R_far (p:=⟨g,5,none⟩) (Kd.R_types O_t3.out BS.out (ne_of rfl (by decide))) (fun _ hk => hk.2) (.bool true)) (fun _ _ => trivial),Kd.R_mono (Kd.R_far (p:=⟨g,5,none⟩) (Kd.R_types O_c.out BS.out (ne_of rfl (by decide))) (fun _ hk => hk.2) (.bool true)) (fun _ _ => trivial),below_set (HB.out) GE.out (j:=5) (v:=.bool true)⟩
        | true =>
         obtain ⟨hx_g_0,hf_g_0,hx_g_1,hf_g_1,hx_g_2,hf_g_2,hx_g_3,hf_g_3,hx_g_4,hf_g_4,hx_g_5,hf_g_5,hx_g_6,hf_g_6⟩:=cells7 BS.out
         obtain ⟨hx_gc_0,hf_gc_0,hx_gc_1,hf_gc_1,hx_gc_2,hf_gc_2⟩:=cells3 BC.out
         go_wp2
         first | go_end0 | ((try simp only [Exit.inBlock,Exit.then]);refine bodyPost_ret (results_none rfl _ _ _) rfl ?_)
         exact ⟨rfl,_,blk_put (BS.out) 5 (.bool true) (cs':=#[.int .u64 b,.slice B1 d.length q1,.slice Bt t3.length qt,.slice B3 c.length q3,.bool true,.bool true,.bool true]) rfl,blk_far (p:=⟨g,5,none⟩) (B4.out) hne.symm (.bool true),Kd.R_mono (Kd.R_far (p:=⟨g,5,none⟩) (Kd.R_types O_d.out BS.out (ne_of rfl (by decide))) (fun _ hk => hk.2) (.bool true)) (fun _ _ => trivial),Kd.R_mono (Kd.R_far (p:=⟨g,5,none⟩) (Kd.R_types O_t3.out BS.out (ne_of rfl (by decide))) (fun _ hk => hk.2) (.bool true)) (fun _ _ => trivial),Kd.R_mono (Kd.R_far (p:=⟨g,5,none⟩) (Kd.R_types O_c.out BS.out (ne_of rfl (by decide))) (fun _ hk => hk.2) (.bool true)) (fun _ _ => trivial),below_set (HB.out) GE.out (j:=5) (v:=.bool true)⟩
      | true =>
       cases fin with
       | false =>
        cases fc with
        | false =>
         obtain ⟨hx_g_0,hf_g_0,hx_g_1,hf_g_1,hx_g_2,hf_g_2,hx_g_3,hf_g_3,hx_g_4,hf_g_4,hx_g_5,hf_g_5,hx_g_6,hf_g_6⟩:=cells7 BS.out
         obtain ⟨hx_gc_0,hf_gc_0,hx_gc_1,hf_gc_1,hx_gc_2,hf_gc_2⟩:=cells3 BC.out
         go_wp2
         first | go_end0 | ((try simp only [Exit.inBlock,Exit.then]);refine bodyPost_ret (results_none rfl _ _ _) rfl ?_)
         exact ⟨rfl,_,blk_put (BS.out) 5 (.bool true) (cs':=#[.int .u64 b,.slice B1 d.length q1,.slice Bt t3.length qt,.slice B3 c.length q3,.bool false,.bool true,.bool false]) rfl,blk_far (p:=⟨g,5,none⟩) (B4.out) hne.symm (.bool true),Kd.R_mono (Kd.R_far (p:=⟨g,5,none⟩) (Kd.R_types O_d.out BS.out (ne_of rfl (by decide))) (fun _ hk => hk.2) (.bool true)) (fun _ _ => trivial),Kd.R_mono (Kd.R_far (p:=⟨g,5,none⟩) (Kd.R_types O_t3.out BS.out (ne_of rfl (by decide))) (fun _ hk => hk.2) (.bool true)) (fun _ _ => trivial),Kd.R_mono (Kd.R_far (p:=⟨g,5,none⟩) (Kd.R_types O_c.out BS.out (ne_of rfl (by decide))) (fun _ hk => hk.2) (.bool true)) (fun _ _ => trivial),below_set (HB.out) GE.out (j:=5) (v:=.bool true)⟩
        | true =>
         obtain ⟨hx_g_0,hf_g_0,hx_g_1,hf_g_1,hx_g_2,hf_g_2,hx_g_3,hf_g_3,hx_g_4,hf_g_4,hx_g_5,hf_g_5,hx_g_6,hf_g_6⟩:=cells7 BS.out
         obtain ⟨hx_gc_0,hf_gc_0,hx_gc_1,hf_gc_1,hx_gc_2,hf_gc_2⟩:=cells3 BC.out
         go_wp2
         first | go_end0 | ((try simp only [Exit.inBlock,Exit.then]);refine bodyPost_ret (results_none rfl _ _ _) rfl ?_)
         exact ⟨rfl,_,blk_put (BS.out) 5 (.bool true) (cs':=#[.int .u64 b,.slice B1 d.length q1,.slice Bt t3.length qt,.slice B3 c.length q3,.bool false,.bool true,.bool true]) rfl,blk_far (p:=⟨g,5,none⟩) (B4.out) hne.symm (.bool true),Kd.R_mono (Kd.R_far (p:=⟨g,5,none⟩) (Kd.R_types O_d.out BS.out (ne_of rfl (by decide))) (fun _ hk => hk.2) (.bool true)) (fun _ _ => trivial),Kd.R_mono (Kd.R_far (p:=⟨g,5,none⟩) (Kd.R_types O_t3.out BS.out (ne_of rfl (by decide))) (fun _ hk => hk.2) (.bool true)) (fun _ _ => trivial),Kd.R_mono (Kd.R_far (p:=⟨g,5,none⟩) (Kd.R_types O_c.out BS.out (ne_of rfl (by decide))) (fun _ hk => hk.2) (.bool true)) (fun _ _ => trivial),below_set (HB.out) GE.out (j:=5) (v:=.bool true)⟩
       | true =>
        cases fc with
        | false =>
         obtain ⟨hx_g_0,hf_g_0,hx_g_1,hf_g_1,hx_g_2,hf_g_2,hx_g_3,hf_g_3,hx_g_4,hf_g_4,hx_g_5,hf_g_5,hx_g_6,hf_g_6⟩:=cells7 BS.out
         obtain ⟨hx_gc_0,hf_gc_0,hx_gc_1,hf_gc_1,hx_gc_2,hf_gc_2⟩:=cells3 BC.out
         go_wp2
         first | go_end0 | ((try simp only [Exit.inBlock,Exit.then]);refine bodyPost_ret (results_none rfl _ _ _) rfl ?_)
         exact ⟨rfl,_,blk_put (BS.out) 5 (.bool true) (cs':=#[.int .u64 b,.slice B1 d.length q1,.slice Bt t3.length qt,.slice B3 c.length q3,.bool true,.bool true,.bool false]) rfl,blk_far (p:=⟨g,5,none⟩) (B4.out) hne.symm (.bool true),Kd.R_mono (Kd.R_far (p:=⟨g,5,none⟩) (Kd.R_types O_d.out BS.out (ne_of rfl (by decide))) (fun _ hk => hk.2) (.bool true)) (fun _ _ => trivial),Kd.R_mono (Kd.R_far (p:=⟨g,5,none⟩) (Kd.R_types O_t3.out BS.out (ne_of rfl (by decide))) (fun _ hk => hk.2) (.bool true)) (fun _ _ => trivial),Kd.R_mono (Kd.R_far (p:=⟨g,5,none⟩) (Kd.R_types O_c.out BS.out (ne_of rfl (by decide))) (fun _ hk => hk.2) (.bool true)) (fun _ _ => trivial),below_set (HB.out) GE.out (j:=5) (v:=.bool true)⟩
        | true =>
         obtain ⟨hx_g_0,hf_g_0,hx_g_1,hf_g_1,hx_g_2,hf_g_2,hx_g_3,hf_g_3,hx_g_4,hf_g_4,hx_g_5,hf_g_5,hx_g_6,hf_g_6⟩:=cells7 BS.out
         obtain ⟨hx_gc_0,hf_gc_0,hx_gc_1,hf_gc_1,hx_gc_2,hf_gc_2⟩:=cells3 BC.out
         go_wp2
         first | go_end0 | ((try simp only [Exit.inBlock,Exit.then]);refine bodyPost_ret (results_none rfl _ _ _) rfl ?_)
         exact ⟨rfl,_,blk_put (BS.out) 5 (.bool true) (cs':=#[.int .u64 b,.slice B1 d.length q1,.slice Bt t3.length qt,.slice B3 c.length q3,.bool true,.bool true,.bool true]) rfl,blk_far (p:=⟨g,5,none⟩) (B4.out) hne.symm (.bool true),Kd.R_mono (Kd.R_far (p:=⟨g,5,none⟩) (Kd.R_types O_d.out BS.out (ne_of rfl (by decide))) (fun _ hk => hk.2) (.bool true)) (fun _ _ => trivial),Kd.R_mono (Kd.R_far (p:=⟨g,5,none⟩) (Kd.R_types O_t3.out BS.out (ne_of rfl (by decide))) (fun _ hk => hk.2) (.bool true)) (fun _ _ => trivial),Kd.R_mono (Kd.R_far (p:=⟨g,5,none⟩) (Kd.R_types O_c.out BS.out (ne_of rfl (by decide))) (fun _ hk => hk.2) (.bool true)) (fun _ _ => trivial),below_set (HB.out) GE.out (j:=5) (v:=.bool true)⟩

end Go.Proofs.Ytadhkamocbhbmaa.P
