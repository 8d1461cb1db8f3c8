-- Printed for this claim by xprint.py of this session: contracts of this session's own stand in for what the print does not take
import Derived.Test.YtadhkamocbhbmaaPx0
import Derived.Test.YtadhkamocbhbmaaPx4
import Derived.Test.YtadhkamocbhbmaaPx7
import Derived.Test.YtadhkamocbhbmaaPx10
namespace Go.Proofs.Ytadhkamocbhbmaa.P
open Go.RowKit Go.Proofs.YtadhkamocbhbmaaW.PrintWords Go.Proofs.YtadhkamocbhbmaaW.PrintLast Go.Proofs.YtadhkamocbhbmaaW.PrintMore
attribute [local go_sem] max2_int min2_int max_two min_two max_three min_three max_four min_four   -- for this text's walks alone
set_option linter.unusedVariables false
set_option linter.unusedSimpArgs false

/-! ### supply_Came_1: function 25 -/
/-- The front of what came,if it begins at the base. -/
def supply_Came_1.f (b : Int) (d : List Int) (c2 : List S37) : Option (Int × List Int × List S37) :=
 if 0 < c2.length ∧ (rd_T37 c2 0).f0 = b then (if b ≤ (rd_T37 c2 0).f1 ∧ (rd_T37 c2 0).f1 - b ≤ d.length then some ((rd_T37 c2 0).f1,d.drop ((rd_T37 c2 0).f1 - b).toNat,c2.drop 1) else none) else some (b,d,c2)
set_option maxHeartbeats 8000000 in
set_option maxRecDepth 100000 in
theorem supply_Came_1.hand (gc : Nat) (off : Int) (Ac : Option Addr) (cc : Nat) (cl : List Int) (cf : Bool) (e p0 p1 b2 : Int) (d2 : List Int) (t2 c2 c3 : List S37) (k : Nat) (b : Int) (d : List Int) (t c : List S37) (v1 v2 v3 : Value) (fin ft fc : Bool) (g g4 : Nat) (cs4 : Array Value) (w0 W : World)
  (hb : W.heap[g]? = some (.cells #[.int .u64 b,v1,v2,v3,.bool fin,.bool ft,.bool fc] 27 (0,0))) (hb4 : W.heap[g4]? = some (.cells cs4 27 (0,0))) (hne : g ≠ g4) (hge : w0.heap.size ≤ g) (r1 : Kd.R (Kd.int .u8) 5 W w0.heap.size (fun _ => True) v1 d) (r2 : Kd.R k37 37 W w0.heap.size (fun _ => True) v2 t) (r3 : Kd.R k37 37 W w0.heap.size (fun _ => True) v3 c) (hB : Below w0.heap.size w0 W) (hgc : W.heap[gc]? = some (.cells #[.int .u64 off,.slice Ac cl.length cc,.bool cf] 32 (0,0))) (hL : d.length < 1000000000 ∧ c2.length < 1000000000 ∧ 0 ≤ b) (hE : IntKind.u64.wrap (b + IntKind.u64.wrap (d.length : Int)) = e) (hP : supply_places.f b off e cl.length = (p0,p1)) (hA : span_Add.f k c p0 p1 = some c2) (hT : span_Cut.f t p0 p1 = some t2) (hF : supply_Came_1.f b d c2 = some (b2,d2,c3)) :
  Calls Try.prog 25 #[.pointer (some ⟨g,0,none⟩),.pointer (some ⟨gc,0,none⟩)] W fun e_ W2 => e_ = .returned (.tuple #[]) ∧ ∃ u1 u2 u3 : Value,W2.heap[g]? = some (.cells #[.int .u64 b2,u1,u2,u3,.bool fin,.bool (if cf && fin then false else ft),.bool (if cf && fin then true else fc)] 27 (0,0)) ∧ W2.heap[g4]? = some (.cells cs4 27 (0,0)) ∧ VR (Kd.int .u8) 5 W2 w0.heap.size u1 d2 ∧ Kd.R k37 37 W2 w0.heap.size (fun _ => True) u2 t2 ∧ VR k37 37 W2 w0.heap.size u3 c3 ∧ Below w0.heap.size w0 W2:=by
 obtain ⟨B1,q1,e1_⟩:=Kd.R_slice r1
 subst e1_
 obtain ⟨B2,q2,e2_⟩:=Kd.R_slice r2
 subst e2_
 obtain ⟨B3,q3,e3_⟩:=Kd.R_slice r3
 subst e3_
 have BS:=Aside0.mk hb
 have B4:=Aside0.mk hb4
 have GE:=Aside0.mk hge
 have O_d:=Aside0.mk r1
 have O_t:=Aside0.mk r2
 have O_c:=Aside0.mk r3
 have HB:=Aside0.mk hB
 clear hb hb4 hge r1 r2 r3 hB
 have BC:=Aside0.mk hgc
 have NE_gc : gc ≠ g:=blk_ne BC.out BS.out (by decide)
 clear hgc
 have HL:=Aside0.mk hL
 have HE:=Aside0.mk hE
 have HP:=Aside0.mk hP
 have HA:=Aside0.mk hA
 have HT:=Aside0.mk hT
 have HF:=Aside0.mk hF
 clear hL hE hP hA hT hF
 obtain ⟨hx_gc_0,hf_gc_0,hx_gc_1,hf_gc_1,hx_gc_2,hf_gc_2⟩:=cells3 BC.out
 go_enter Try.func25,Try.ntmps25
 go_upto_region 1 with (first
  | ((with_reducible refine gate_callee (f:=26) rfl ?_);refine goesL_ (some 7) rfl rfl Try.func26 (by kernel_rfl) rfl #[.pointer (some ⟨g,0,none⟩),.agg #[.int .u64 off,.slice Ac cl.length cc,.bool cf]] rfl (by (try simp only [List.map_toArray,List.map_cons,List.map_nil]);first | done | rfl) ?_;refine (supply_places.hand b d t c _ _ _ _ _ _ fin ft fc g off Ac cc cl cf e p0 p1 _ BS.out (Kd.R_reads' O_d.out).2.2 (Kd.R_reads' O_d.out).2.1 (Kd.R_reads' O_t.out).2.2 (Kd.R_reads' O_t.out).2.1 (Kd.R_reads' O_c.out).2.2 (Kd.R_reads' O_c.out).2.1 HE.out HP.out).mono ?_;rintro e_ w3 ⟨rfl,hb⟩;refine ⟨_,rfl,?_⟩;clear hx_gc_0 hf_gc_0 hx_gc_1 hf_gc_1 hx_gc_2 hf_gc_2;have n1_:=Aside0.mk (below_step HB.out hb);have n2_:=Aside0.mk (blk_below BS.out hb);have n3_:=Aside0.mk (blk_below B4.out hb);have n4_:=Aside0.mk (blk_below BC.out hb);have n5_:=Aside0.mk (Kd.R_below O_d.out hb);have n6_:=Aside0.mk (Kd.R_below O_t.out hb);have n7_:=Aside0.mk (Kd.R_below O_c.out hb);clear HB BS B4 BC O_d O_t O_c;have HB:=n1_;have BS:=n2_;have B4:=n3_;have BC:=n4_;have O_d:=n5_;have O_t:=n6_;have O_c:=n7_;clear n1_ n2_ n3_ n4_ n5_ n6_ n7_;clear hb)
  | ((with_reducible refine gate_dst (N:=3) rfl ?_);refine box_event ?hg (N:=3) ?hd (cs:=#[.int .u64 0,.int .u64 0]) (t:=37) ?hr ?_;(case hd => rfl);(case hg => rfl);(case hr => first | (go_simp;done) | (go_simp;rfl));intro g3 hg w4 hbox hb;have GE_g3:=Aside0.mk (show w0.heap.size ≤ g3 by rw [hg];exact HB.out.size);have NB_g_g3 : g ≠ g3:=(by rw [hg];exact Nat.ne_of_lt (blk_lt BS.out));have NB_g3_g:=NB_g_g3.symm;have NB_g4_g3 : g4 ≠ g3:=(by rw [hg];exact Nat.ne_of_lt (blk_lt B4.out));have NB_g3_g4:=NB_g4_g3.symm;have NB_gc_g3 : gc ≠ g3:=(by rw [hg];exact Nat.ne_of_lt (blk_lt BC.out));have NB_g3_gc:=NB_gc_g3.symm;have n8_:=Aside0.mk (below_step HB.out hb);have n9_:=Aside0.mk (blk_below BS.out hb);have n10_:=Aside0.mk (blk_below B4.out hb);have n11_:=Aside0.mk (blk_below BC.out hb);have n12_:=Aside0.mk (Kd.R_below O_d.out hb);have n13_:=Aside0.mk (Kd.R_below (Kd.R_elderB O_t.out g3 (Nat.le_of_eq hg.symm)) hb);have n14_:=Aside0.mk (Kd.R_below (Kd.R_elderB O_c.out g3 (Nat.le_of_eq hg.symm)) hb);clear HB BS B4 BC O_d O_t O_c;have HB:=n8_;have BS:=n9_;have B4:=n10_;have BC:=n11_;have O_d:=n12_;have O_t:=n13_;have O_c:=n14_;clear n8_ n9_ n10_ n11_ n12_ n13_ n14_;have BK_g3:=Aside0.mk hbox;clear hbox hb hg;obtain ⟨hx_g3_0,hf_g3_0,hx_g3_1,hf_g3_1⟩:=cells2 BK_g3.out))
 clear hx_g3_0 hf_g3_0 hx_g3_1 hf_g3_1
 have n15_ : Aside0 (((w4.setCell ⟨g3,0,none⟩ (.int .u64 p0)).setCell ⟨g3,1,none⟩ (.int .u64 p1)).heap[g3]? = some (.cells #[.int .u64 p0,.int .u64 p1] 37 (0,0))):=⟨blk_put (blk_put (BK_g3.out) 0 (.int .u64 p0) (cs':=#[.int .u64 p0,.int .u64 0]) rfl) 1 (.int .u64 p1) (cs':=#[.int .u64 p0,.int .u64 p1]) rfl⟩
 have n16_ : Aside0 (((w4.setCell ⟨g3,0,none⟩ (.int .u64 p0)).setCell ⟨g3,1,none⟩ (.int .u64 p1)).heap[g]? = some (.cells #[.int .u64 b,.slice B1 d.length q1,.slice B2 t.length q2,.slice B3 c.length q3,.bool fin,.bool ft,.bool fc] 27 (0,0))):=⟨blk_far (p:=⟨g3,1,none⟩) (blk_far (p:=⟨g3,0,none⟩) (BS.out) NB_g_g3 (.int .u64 p0)) NB_g_g3 (.int .u64 p1)⟩
 have n17_ : Aside0 (((w4.setCell ⟨g3,0,none⟩ (.int .u64 p0)).setCell ⟨g3,1,none⟩ (.int .u64 p1)).heap[g4]? = some (.cells cs4 27 (0,0))):=⟨blk_far (p:=⟨g3,1,none⟩) (blk_far (p:=⟨g3,0,none⟩) (B4.out) NB_g4_g3 (.int .u64 p0)) NB_g4_g3 (.int .u64 p1)⟩
 have n18_ : Aside0 (((w4.setCell ⟨g3,0,none⟩ (.int .u64 p0)).setCell ⟨g3,1,none⟩ (.int .u64 p1)).heap[gc]? = some (.cells #[.int .u64 off,.slice Ac cl.length cc,.bool cf] 32 (0,0))):=⟨blk_far (p:=⟨g3,1,none⟩) (blk_far (p:=⟨g3,0,none⟩) (BC.out) NB_gc_g3 (.int .u64 p0)) NB_gc_g3 (.int .u64 p1)⟩
 have n19_ : Aside0 (Kd.R (Kd.int .u8) 5 ((w4.setCell ⟨g3,0,none⟩ (.int .u64 p0)).setCell ⟨g3,1,none⟩ (.int .u64 p1)) w0.heap.size (fun _ => True) (.slice B1 d.length q1) (d)):=⟨Kd.R_mono (Kd.R_far (p:=⟨g3,1,none⟩) (Kd.R_far (p:=⟨g3,0,none⟩) (Kd.R_types O_d.out BK_g3.out (ne_of rfl (by decide))) (fun _ hk => hk.2) (.int .u64 p0)) (fun _ hk => hk.2) (.int .u64 p1)) (fun _ _ => trivial)⟩
 have n20_ : Aside0 (Kd.R k37 37 ((w4.setCell ⟨g3,0,none⟩ (.int .u64 p0)).setCell ⟨g3,1,none⟩ (.int .u64 p1)) w0.heap.size (fun _ => True) (.slice B2 t.length q2) (t)):=⟨Kd.R_mono (Kd.R_far (p:=⟨g3,1,none⟩) (Kd.R_far (p:=⟨g3,0,none⟩) (O_t.out) (fun _ hk => hk.2) (.int .u64 p0)) (fun _ hk => hk.2) (.int .u64 p1)) (fun _ _ => trivial)⟩
 have n21_ : Aside0 (Kd.R k37 37 ((w4.setCell ⟨g3,0,none⟩ (.int .u64 p0)).setCell ⟨g3,1,none⟩ (.int .u64 p1)) w0.heap.size (fun _ => True) (.slice B3 c.length q3) (c)):=⟨Kd.R_mono (Kd.R_far (p:=⟨g3,1,none⟩) (Kd.R_far (p:=⟨g3,0,none⟩) (O_c.out) (fun _ hk => hk.2) (.int .u64 p0)) (fun _ hk => hk.2) (.int .u64 p1)) (fun _ _ => trivial)⟩
 have n22_ : Aside0 (Below w0.heap.size w0 ((w4.setCell ⟨g3,0,none⟩ (.int .u64 p0)).setCell ⟨g3,1,none⟩ (.int .u64 p1))):=⟨below_set (below_set (HB.out) GE_g3.out (j:=0) (v:=.int .u64 p0)) GE_g3.out (j:=1) (v:=.int .u64 p1)⟩
 clear BK_g3 BS B4 BC O_d O_t O_c HB
 have BK_g3:=n15_
 have BS:=n16_
 have B4:=n17_
 have BC:=n18_
 have O_d:=n19_
 have O_t:=n20_
 have O_c:=n21_
 have HB:=n22_
 clear n15_ n16_ n17_ n18_ n19_ n20_ n21_ n22_
 generalize ((w4.setCell ⟨g3,0,none⟩ (.int .u64 p0)).setCell ⟨g3,1,none⟩ (.int .u64 p1)) = w5 at BK_g3 BS B4 BC O_d O_t O_c HB ⊢
 have n23_:=Aside0.mk (below_drew1 HB.out)
 have n24_:=Aside0.mk (blk_drew BS.out)
 have n25_:=Aside0.mk (blk_drew B4.out)
 have n26_:=Aside0.mk (blk_drew BC.out)
 have n27_:=Aside0.mk (blk_drew BK_g3.out)
 have n28_:=Aside0.mk (Kd.R_drew O_d.out)
 have n29_:=Aside0.mk (Kd.R_drew O_t.out)
 have n30_:=Aside0.mk (Kd.R_drew O_c.out)
 clear HB BS B4 BC BK_g3 O_d O_t O_c
 have HB:=n23_
 have BS:=n24_
 have B4:=n25_
 have BC:=n26_
 have BK_g3:=n27_
 have O_d:=n28_
 have O_t:=n29_
 have O_c:=n30_
 clear n23_ n24_ n25_ n26_ n27_ n28_ n29_ n30_
 (try simp only [Act.put,List.setIfInBounds_toArray,List.set_cons_zero,List.set_cons_succ])
 refine start_ (n:=20) (S:=fun w' => w'.cell? ⟨g,0,none⟩ = some (.int .u64 b) ∧ w'.cell? ⟨g,1,none⟩ = some (.slice B1 d.length q1) ∧ w'.cell? ⟨g,2,none⟩ = some (.slice B2 t.length q2) ∧ w'.cell? ⟨g,3,none⟩ = some (.slice B3 c.length q3) ∧ w'.cell? ⟨g,4,none⟩ = some (.bool fin) ∧ w'.cell? ⟨g,5,none⟩ = some (.bool ft) ∧ w'.cell? ⟨g,6,none⟩ = some (.bool fc) ∧ w'.cell? ⟨g3,0,none⟩ = some (.int .u64 p0) ∧ w'.cell? ⟨g3,1,none⟩ = some (.int .u64 p1)) (ds:=[16,19]) #[false,false,false,false,false,false,false,false,false,false,false,false,false,false,false,false,false,false,false,false] (by kernel_rfl) rfl rfl ⟨(blk_cell BS.out 0).trans rfl,(blk_cell BS.out 1).trans rfl,(blk_cell BS.out 2).trans rfl,(blk_cell BS.out 3).trans rfl,(blk_cell BS.out 4).trans rfl,(blk_cell BS.out 5).trans rfl,(blk_cell BS.out 6).trans rfl,(blk_cell BK_g3.out 0).trans rfl,(blk_cell BK_g3.out 1).trans rfl⟩ (fun hHeld => ?_)
 generalize w5.drew = w6 at HB BS B4 BC BK_g3 O_d O_t O_c hHeld ⊢
 refine pure_ (i:=0) (N:=some 8) (v:=?_) (a':=?_) #[true,false,false,false,false,false,false,false,false,false,false,false,false,false,false,false,false,false,false,false] rfl rfl (by kernel_rfl) (fun _ _ _ h => h) (Or.inl ⟨by rfl,?_⟩) ?_ ?_
 rotate_left
 ·intro w'
  go_simp
  with_reducible rfl
 rotate_left
 ·simp only [Act.put,List.setIfInBounds_toArray,List.set_cons_zero,List.set_cons_succ,i64_w,i32_w]
  rfl
 refine pure_ (i:=1) (N:=some 9) (v:=?_) (a':=?_) #[true,true,false,false,false,false,false,false,false,false,false,false,false,false,false,false,false,false,false,false] rfl rfl (by kernel_rfl) (fun _ _ _ h => h) (Or.inl ⟨by rfl,?_⟩) ?_ ?_
 rotate_left
 ·intro w'
  go_simp
  with_reducible rfl
 rotate_left
 ·simp only [Act.put,List.setIfInBounds_toArray,List.set_cons_zero,List.set_cons_succ,i64_w,i32_w]
  rfl
 refine pure_ (i:=2) (N:=some 10) (v:=?_) (a':=?_) #[true,true,true,false,false,false,false,false,false,false,false,false,false,false,false,false,false,false,false,false] rfl rfl (by kernel_rfl) (fun _ _ _ h => h) (Or.inl ⟨by rfl,?_⟩) ?_ ?_
 rotate_left
 ·intro w'
  go_simp
  with_reducible rfl
 rotate_left
 ·simp only [Act.put,List.setIfInBounds_toArray,List.set_cons_zero,List.set_cons_succ,i64_w,i32_w]
  rfl
 refine pure_ (i:=3) (N:=some 11) (v:=?_) (a':=?_) #[true,true,true,true,false,false,false,false,false,false,false,false,false,false,false,false,false,false,false,false] rfl rfl (by kernel_rfl) (fun _ _ _ h => h) (Or.inl ⟨by rfl,?_⟩) ?_ ?_
 rotate_left
 ·intro w'
  go_simp
  with_reducible rfl
 rotate_left
 ·simp only [Act.put,List.setIfInBounds_toArray,List.set_cons_zero,List.set_cons_succ,i64_w,i32_w]
  rfl
 refine pure_ (i:=4) (N:=some 12) (v:=?_) (a':=?_) #[true,true,true,true,true,false,false,false,false,false,false,false,false,false,false,false,false,false,false,false] rfl rfl (by kernel_rfl) (fun _ _ _ h => h) (Or.inl ⟨by rfl,?_⟩) ?_ ?_
 rotate_left
 ·intro w'
  go_simp
  with_reducible rfl
 rotate_left
 ·simp only [Act.put,List.setIfInBounds_toArray,List.set_cons_zero,List.set_cons_succ,i64_w,i32_w]
  rfl
 refine pure_ (i:=8) (N:=some 16) (v:=?_) (a':=?_) #[true,true,true,true,true,false,false,false,true,false,false,false,false,false,false,false,false,false,false,false] rfl rfl (by kernel_rfl) (fun _ _ _ h => h) (Or.inl ⟨by rfl,?_⟩) ?_ ?_
 rotate_left
 ·intro w'
  go_simp
  with_reducible rfl
 rotate_left
 ·simp only [Act.put,List.setIfInBounds_toArray,List.set_cons_zero,List.set_cons_succ,i64_w,i32_w]
  rfl
 refine pure_ (i:=9) (N:=some 17) (v:=?_) (a':=?_) #[true,true,true,true,true,false,false,false,true,true,false,false,false,false,false,false,false,false,false,false] rfl rfl (by kernel_rfl) (fun _ _ _ h => h) (Or.inl ⟨by rfl,?_⟩) ?_ ?_
 rotate_left
 ·intro w'
  go_simp
  with_reducible rfl
 rotate_left
 ·simp only [Act.put,List.setIfInBounds_toArray,List.set_cons_zero,List.set_cons_succ,i64_w,i32_w]
  rfl
 refine pure_ (i:=10) (N:=some 18) (v:=?_) (a':=?_) #[true,true,true,true,true,false,false,false,true,true,true,false,false,false,false,false,false,false,false,false] rfl rfl (by kernel_rfl) (fun _ _ _ h => h) (Or.inl ⟨by rfl,?_⟩) ?_ ?_
 rotate_left
 ·intro w'
  go_simp
  with_reducible rfl
 rotate_left
 ·simp only [Act.put,List.setIfInBounds_toArray,List.set_cons_zero,List.set_cons_succ,i64_w,i32_w]
  rfl
 refine take_ (i:=5) (N:=some 13) (v:=?_) (a':=?_) #[true,true,true,true,true,true,false,false,true,true,true,false,false,false,false,false,false,false,false,false] rfl rfl (by kernel_rfl) (fun _ _ _ h => h) (Or.inl ⟨by rfl,?_⟩) hHeld ?_ ?_
 rotate_left
 ·rintro w' ⟨s0,s1,s2,s3,s4,s5,s6,s7,s8⟩
  go_simp
  with_reducible rfl
 rotate_left
 ·simp only [Act.put,List.setIfInBounds_toArray,List.set_cons_zero,List.set_cons_succ,i64_w,i32_w]
  rfl
 refine take_ (i:=6) (N:=some 14) (v:=?_) (a':=?_) #[true,true,true,true,true,true,true,false,true,true,true,false,false,false,false,false,false,false,false,false] rfl rfl (by kernel_rfl) (fun _ _ _ h => h) (Or.inl ⟨by rfl,?_⟩) hHeld ?_ ?_
 rotate_left
 ·rintro w' ⟨s0,s1,s2,s3,s4,s5,s6,s7,s8⟩
  go_simp
  with_reducible rfl
 rotate_left
 ·simp only [Act.put,List.setIfInBounds_toArray,List.set_cons_zero,List.set_cons_succ,i64_w,i32_w]
  rfl
 refine take_ (i:=11) (N:=some 19) (v:=?_) (a':=?_) #[true,true,true,true,true,true,true,false,true,true,true,true,false,false,false,false,false,false,false,false] rfl rfl (by kernel_rfl) (fun _ _ _ h => h) (Or.inl ⟨by rfl,?_⟩) hHeld ?_ ?_
 rotate_left
 ·rintro w' ⟨s0,s1,s2,s3,s4,s5,s6,s7,s8⟩
  go_simp
  with_reducible rfl
 rotate_left
 ·simp only [Act.put,List.setIfInBounds_toArray,List.set_cons_zero,List.set_cons_succ,i64_w,i32_w]
  rfl
 refine take_ (i:=12) (N:=some 20) (v:=?_) (a':=?_) #[true,true,true,true,true,true,true,false,true,true,true,true,true,false,false,false,false,false,false,false] rfl rfl (by kernel_rfl) (fun _ _ _ h => h) (Or.inl ⟨by rfl,?_⟩) hHeld ?_ ?_
 rotate_left
 ·rintro w' ⟨s0,s1,s2,s3,s4,s5,s6,s7,s8⟩
  go_simp
  with_reducible rfl
 rotate_left
 ·simp only [Act.put,List.setIfInBounds_toArray,List.set_cons_zero,List.set_cons_succ,i64_w,i32_w]
  rfl
 refine one_ (i:=7) (N:=some 15) #[true,true,true,true,true,true,true,true,true,true,true,true,true,false,false,false,false,false,false,false] rfl rfl (by kernel_rfl) (by decide) (fun K hK => ?_)
 refine goes_ Try.func21 (by kernel_rfl) rfl #[.slice B3 c.length q3,.agg #[.int .u64 p0,.int .u64 p1]] (by rfl) rfl rfl (by (try simp only [List.map_toArray,List.map_cons,List.map_nil]);first | done | rfl) ?_
 refine (span_Add.calls k B3 q3 c p0 p1 c2 _ (Kd.R_reads' O_c.out).2.2 (Kd.R_reads' O_c.out).2.1 HA.out).mono ?_
 rintro e_ w7 ⟨u_,rfl,ho,hb⟩
 refine ⟨_,rfl,?_⟩
 have O_c2:=Aside0.mk (Kd.R_lower ho HB.out.size)
 clear ho
 have n31_:=Aside0.mk (below_step HB.out hb)
 have n32_:=Aside0.mk (blk_below BS.out hb)
 have n33_:=Aside0.mk (blk_below B4.out hb)
 have n34_:=Aside0.mk (blk_below BC.out hb)
 have n35_:=Aside0.mk (blk_below BK_g3.out hb)
 have n36_:=Aside0.mk (Kd.R_below O_d.out hb)
 have n37_:=Aside0.mk (Kd.R_below O_t.out hb)
 have n38_:=Aside0.mk (Kd.R_below O_c.out hb)
 clear HB BS B4 BC BK_g3 O_d O_t O_c
 have HB:=n31_
 have BS:=n32_
 have B4:=n33_
 have BC:=n34_
 have BK_g3:=n35_
 have O_d:=n36_
 have O_t:=n37_
 have O_c:=n38_
 clear n31_ n32_ n33_ n34_ n35_ n36_ n37_ n38_
 clear hb
 obtain ⟨D3,p3,eo⟩:=Kd.R_slice O_c2.out
 subst eo
 refine hK.out _ _ ⟨(blk_cell BS.out 0).trans rfl,(blk_cell BS.out 1).trans rfl,(blk_cell BS.out 2).trans rfl,(blk_cell BS.out 3).trans rfl,(blk_cell BS.out 4).trans rfl,(blk_cell BS.out 5).trans rfl,(blk_cell BS.out 6).trans rfl,(blk_cell BK_g3.out 0).trans rfl,(blk_cell BK_g3.out 1).trans rfl⟩ (fun hHeld => ?_)
 clear hK K
 refine norm_ (a':=?_) ?_ ?_
 rotate_left
 ·show Act.put _ (some 15) _ = _
  simp only [Act.put,List.setIfInBounds_toArray,List.set_cons_zero,List.set_cons_succ,i64_w,i32_w]
  rfl
 refine one_ (i:=13) (N:=some 21) #[true,true,true,true,true,true,true,true,true,true,true,true,true,true,false,false,false,false,false,false] rfl rfl (by kernel_rfl) (by decide) (fun K hK => ?_)
 refine goes_ Try.func24 (by kernel_rfl) rfl #[.slice B2 t.length q2,.agg #[.int .u64 p0,.int .u64 p1]] (by rfl) rfl rfl (by (try simp only [List.map_toArray,List.map_cons,List.map_nil]);first | done | rfl) ?_
 refine (span_Cut.calls B2 q2 t p0 p1 t2 _ (Kd.R_reads' O_t.out).2.2 (Kd.R_reads' O_t.out).2.1 HT.out).mono ?_
 rintro e_ w8 ⟨u_,rfl,ho,hb⟩
 refine ⟨_,rfl,?_⟩
 have O_t2:=Aside0.mk (Kd.R_lower ho HB.out.size)
 clear ho
 have n39_:=Aside0.mk (below_step HB.out hb)
 have n40_:=Aside0.mk (blk_below BS.out hb)
 have n41_:=Aside0.mk (blk_below B4.out hb)
 have n42_:=Aside0.mk (blk_below BC.out hb)
 have n43_:=Aside0.mk (blk_below BK_g3.out hb)
 have n44_:=Aside0.mk (Kd.R_below O_d.out hb)
 have n45_:=Aside0.mk (Kd.R_below O_t.out hb)
 have n46_:=Aside0.mk (Kd.R_below O_c.out hb)
 have n47_:=Aside0.mk (Kd.R_below O_c2.out hb)
 clear HB BS B4 BC BK_g3 O_d O_t O_c O_c2
 have HB:=n39_
 have BS:=n40_
 have B4:=n41_
 have BC:=n42_
 have BK_g3:=n43_
 have O_d:=n44_
 have O_t:=n45_
 have O_c:=n46_
 have O_c2:=n47_
 clear n39_ n40_ n41_ n42_ n43_ n44_ n45_ n46_ n47_
 clear hb
 obtain ⟨D2,p2,eo⟩:=Kd.R_slice O_t2.out
 subst eo
 obtain ⟨hx_g_0,hf_g_0,hx_g_1,hf_g_1,hx_g_2,hf_g_2,hx_g_3,hf_g_3,hx_g_4,hf_g_4,hx_g_5,hf_g_5,hx_g_6,hf_g_6⟩:=cells7 BS.out
 refine hK.out _ _ ⟨(blk_cell BS.out 0).trans rfl,(blk_cell BS.out 1).trans rfl,(blk_cell BS.out 2).trans rfl,(blk_cell BS.out 3).trans rfl,(blk_cell BS.out 4).trans rfl,(blk_cell BS.out 5).trans rfl,(blk_cell BS.out 6).trans rfl,(blk_cell BK_g3.out 0).trans rfl,(blk_cell BK_g3.out 1).trans rfl⟩ (fun hHeld => ?_)
 clear hK K
 refine norm_ (a':=?_) ?_ ?_
 rotate_left
 ·show Act.put _ (some 21) _ = _
  simp only [Act.put,List.setIfInBounds_toArray,List.set_cons_zero,List.set_cons_succ,i64_w,i32_w]
  rfl
 refine pure_ (i:=14) (N:=some 22) (v:=?_) (a':=?_) #[true,true,true,true,true,true,true,true,true,true,true,true,true,true,true,false,false,false,false,false] rfl rfl (by kernel_rfl) (fun _ _ _ h => h) (Or.inl ⟨by rfl,?_⟩) ?_ ?_
 rotate_left
 ·intro w'
  go_simp
  with_reducible rfl
 rotate_left
 ·simp only [Act.put,List.setIfInBounds_toArray,List.set_cons_zero,List.set_cons_succ,i64_w,i32_w]
  rfl
 refine pure_ (i:=15) (N:=some 23) (v:=?_) (a':=?_) #[true,true,true,true,true,true,true,true,true,true,true,true,true,true,true,true,false,false,false,false] rfl rfl (by kernel_rfl) (fun _ _ _ h => h) (Or.inl ⟨by rfl,?_⟩) ?_ ?_
 rotate_left
 ·intro w'
  go_simp
  with_reducible rfl
 rotate_left
 ·simp only [Act.put,List.setIfInBounds_toArray,List.set_cons_zero,List.set_cons_succ,i64_w,i32_w]
  rfl
 refine last_ (i:=16) (N:=none) #[true,true,true,true,true,true,true,true,true,true,true,true,true,true,true,true,true,false,false,false] rfl rfl (by kernel_rfl) (by decide) (fun K hK => ?_)
 refine skip_ (w1:=?_) (by rfl) rfl ?_ ?_
 rotate_left
 ·go_simp
  rfl
 refine hK.out _ _ ?_
 clear hK K
 refine pure_ (i:=17) (N:=some 24) (v:=?_) (a':=?_) #[true,true,true,true,true,true,true,true,true,true,true,true,true,true,true,true,true,true,false,false] rfl rfl (by kernel_rfl) (fun _ _ _ h => h) (Or.inl ⟨by rfl,?_⟩) ?_ ?_
 rotate_left
 ·intro w'
  go_simp
  with_reducible rfl
 rotate_left
 ·simp only [Act.put,List.setIfInBounds_toArray,List.set_cons_zero,List.set_cons_succ,i64_w,i32_w]
  rfl
 refine pure_ (i:=18) (N:=some 25) (v:=?_) (a':=?_) #[true,true,true,true,true,true,true,true,true,true,true,true,true,true,true,true,true,true,true,false] rfl rfl (by kernel_rfl) (fun _ _ _ h => h) (Or.inl ⟨by rfl,?_⟩) ?_ ?_
 rotate_left
 ·intro w'
  go_simp
  with_reducible rfl
 rotate_left
 ·simp only [Act.put,List.setIfInBounds_toArray,List.set_cons_zero,List.set_cons_succ,i64_w,i32_w]
  rfl
 refine last_ (i:=19) (N:=none) #[true,true,true,true,true,true,true,true,true,true,true,true,true,true,true,true,true,true,true,true] rfl rfl (by kernel_rfl) (by decide) (fun K hK => ?_)
 refine skip_ (w1:=?_) (by rfl) rfl ?_ ?_
 rotate_left
 ·go_simp
  rfl
 refine hK.out _ _ ?_
 clear hK K
 refine done_ (by kernel_rfl) ?_
 clear O_t O_c
 clear hx_g_0 hf_g_0 hx_g_1 hf_g_1 hx_g_2 hf_g_2 hx_g_3 hf_g_3 hx_g_4 hf_g_4 hx_g_5 hf_g_5 hx_g_6 hf_g_6
 have n48_ : Aside0 (((w8.setCell ⟨g,3,none⟩ (.slice D3 c2.length p3)).setCell ⟨g,2,none⟩ (.slice D2 t2.length p2)).heap[g]? = some (.cells #[.int .u64 b,.slice B1 d.length q1,.slice D2 t2.length p2,.slice D3 c2.length p3,.bool fin,.bool ft,.bool fc] 27 (0,0))):=⟨blk_put (blk_put (BS.out) 3 (.slice D3 c2.length p3) (cs':=#[.int .u64 b,.slice B1 d.length q1,.slice B2 t.length q2,.slice D3 c2.length p3,.bool fin,.bool ft,.bool fc]) rfl) 2 (.slice D2 t2.length p2) (cs':=#[.int .u64 b,.slice B1 d.length q1,.slice D2 t2.length p2,.slice D3 c2.length p3,.bool fin,.bool ft,.bool fc]) rfl⟩
 have n49_ : Aside0 (((w8.setCell ⟨g,3,none⟩ (.slice D3 c2.length p3)).setCell ⟨g,2,none⟩ (.slice D2 t2.length p2)).heap[g4]? = some (.cells cs4 27 (0,0))):=⟨blk_far (p:=⟨g,2,none⟩) (blk_far (p:=⟨g,3,none⟩) (B4.out) hne.symm (.slice D3 c2.length p3)) hne.symm (.slice D2 t2.length p2)⟩
 have n50_ : Aside0 (((w8.setCell ⟨g,3,none⟩ (.slice D3 c2.length p3)).setCell ⟨g,2,none⟩ (.slice D2 t2.length p2)).heap[gc]? = some (.cells #[.int .u64 off,.slice Ac cl.length cc,.bool cf] 32 (0,0))):=⟨blk_far (p:=⟨g,2,none⟩) (blk_far (p:=⟨g,3,none⟩) (BC.out) NE_gc (.slice D3 c2.length p3)) NE_gc (.slice D2 t2.length p2)⟩
 have n51_ : Aside0 (((w8.setCell ⟨g,3,none⟩ (.slice D3 c2.length p3)).setCell ⟨g,2,none⟩ (.slice D2 t2.length p2)).heap[g3]? = some (.cells #[.int .u64 p0,.int .u64 p1] 37 (0,0))):=⟨blk_far (p:=⟨g,2,none⟩) (blk_far (p:=⟨g,3,none⟩) (BK_g3.out) NB_g3_g (.slice D3 c2.length p3)) NB_g3_g (.slice D2 t2.length p2)⟩
 have n52_ : Aside0 (Kd.R (Kd.int .u8) 5 ((w8.setCell ⟨g,3,none⟩ (.slice D3 c2.length p3)).setCell ⟨g,2,none⟩ (.slice D2 t2.length p2)) w0.heap.size (fun _ => True) (.slice B1 d.length q1) (d)):=⟨Kd.R_mono (Kd.R_far (p:=⟨g,2,none⟩) (Kd.R_far (p:=⟨g,3,none⟩) (Kd.R_types O_d.out BS.out (ne_of rfl (by decide))) (fun _ hk => hk.2) (.slice D3 c2.length p3)) (fun _ hk => hk.2) (.slice D2 t2.length p2)) (fun _ _ => trivial)⟩
 have n53_ : Aside0 (Kd.R k37 37 ((w8.setCell ⟨g,3,none⟩ (.slice D3 c2.length p3)).setCell ⟨g,2,none⟩ (.slice D2 t2.length p2)) w0.heap.size (fun _ => True) (.slice D3 c2.length p3) (c2)):=⟨Kd.R_mono (Kd.R_far (p:=⟨g,2,none⟩) (Kd.R_far (p:=⟨g,3,none⟩) (Kd.R_types O_c2.out BS.out (ne_of rfl (by decide))) (fun _ hk => hk.2) (.slice D3 c2.length p3)) (fun _ hk => hk.2) (.slice D2 t2.length p2)) (fun _ _ => trivial)⟩
 have n54_ : Aside0 (Kd.R k37 37 ((w8.setCell ⟨g,3,none⟩ (.slice D3 c2.length p3)).setCell ⟨g,2,none⟩ (.slice D2 t2.length p2)) w0.heap.size (fun _ => True) (.slice D2 t2.length p2) (t2)):=⟨Kd.R_mono (Kd.R_far (p:=⟨g,2,none⟩) (Kd.R_far (p:=⟨g,3,none⟩) (Kd.R_types O_t2.out BS.out (ne_of rfl (by decide))) (fun _ hk => hk.2) (.slice D3 c2.length p3)) (fun _ hk => hk.2) (.slice D2 t2.length p2)) (fun _ _ => trivial)⟩
 have n55_ : Aside0 (Below w0.heap.size w0 ((w8.setCell ⟨g,3,none⟩ (.slice D3 c2.length p3)).setCell ⟨g,2,none⟩ (.slice D2 t2.length p2))):=⟨below_set (below_set (HB.out) GE.out (j:=3) (v:=.slice D3 c2.length p3)) GE.out (j:=2) (v:=.slice D2 t2.length p2)⟩
 clear BS B4 BC BK_g3 O_d O_c2 O_t2 HB
 have BS:=n48_
 have B4:=n49_
 have BC:=n50_
 have BK_g3:=n51_
 have O_d:=n52_
 have O_c2:=n53_
 have O_t2:=n54_
 have HB:=n55_
 clear n48_ n49_ n50_ n51_ n52_ n53_ n54_ n55_
 generalize ((w8.setCell ⟨g,3,none⟩ (.slice D3 c2.length p3)).setCell ⟨g,2,none⟩ (.slice D2 t2.length p2)) = w9 at BS B4 BC BK_g3 O_d O_c2 O_t2 HB ⊢
 clear BK_g3
 by_cases k0 : 0 < c2.length
 case neg =>
  have hf_:=HF.out
  unfold supply_Came_1.f at hf_
  rw [if_neg (fun h => k0 h.1)] at hf_
  injection hf_ with hf_
  simp only [Prod.mk.injEq] at hf_
  obtain ⟨rfl,rfl,rfl⟩:=hf_
  have kb0 : decide ((c2.length : Int) > 0) = false:=decide_eq_false (by omega)
  have kb1 : decide ((0 : Int) < (c2.length : Int)) = false:=decide_eq_false (by omega)
  have kb2 : decide (0 < c2.length) = false:=decide_eq_false k0
  clear k0 HF
  go_upto_region 2 with fail
  obtain ⟨hx_g_0,hf_g_0,hx_g_1,hf_g_1,hx_g_2,hf_g_2,hx_g_3,hf_g_3,hx_g_4,hf_g_4,hx_g_5,hf_g_5,hx_g_6,hf_g_6⟩:=cells7 BS.out
  go_region
  clear hx_g_0 hf_g_0 hx_g_1 hf_g_1 hx_g_2 hf_g_2 hx_g_3 hf_g_3 hx_g_4 hf_g_4 hx_g_5 hf_g_5 hx_g_6 hf_g_6
  have n56_:=Aside0.mk (below_drew1 HB.out)
  have n57_:=Aside0.mk (blk_drew BS.out)
  have n58_:=Aside0.mk (blk_drew B4.out)
  have n59_:=Aside0.mk (blk_drew BC.out)
  have n60_:=Aside0.mk (Kd.R_drew O_d.out)
  have n61_:=Aside0.mk (Kd.R_drew O_c2.out)
  have n62_:=Aside0.mk (Kd.R_drew O_t2.out)
  clear HB BS B4 BC O_d O_c2 O_t2
  have HB:=n56_
  have BS:=n57_
  have B4:=n58_
  have BC:=n59_
  have O_d:=n60_
  have O_c2:=n61_
  have O_t2:=n62_
  clear n56_ n57_ n58_ n59_ n60_ n61_ n62_
  generalize w9.drew = w10 at HB BS B4 BC O_d O_c2 O_t2 ⊢
  go_upto_region 5 with fail
  cases cf with
  | false =>
   cases fin with
   | false =>
    obtain ⟨hx_g_0,hf_g_0,hx_g_1,hf_g_1,hx_g_2,hf_g_2,hx_g_3,hf_g_3,hx_g_4,hf_g_4,hx_g_5,hf_g_5,hx_g_6,hf_g_6⟩:=cells7 BS.out
    obtain ⟨hx_gc_0,hf_gc_0,hx_gc_1,hf_gc_1,hx_gc_2,hf_gc_2⟩:=cells3 BC.out
    go_wp2
    first | go_end0 | ((try simp only [Exit.inBlock,Exit.then]);refine bodyPost_ret (results_none rfl _ _ _) rfl ?_)
    exact ⟨rfl,_,_,_,BS.out,B4.out,.inl (O_d.out),O_t2.out,.inl (O_c2.out),HB.out⟩
   | true =>
    obtain ⟨hx_g_0,hf_g_0,hx_g_1,hf_g_1,hx_g_2,hf_g_2,hx_g_3,hf_g_3,hx_g_4,hf_g_4,hx_g_5,hf_g_5,hx_g_6,hf_g_6⟩:=cells7 BS.out
    obtain ⟨hx_gc_0,hf_gc_0,hx_gc_1,hf_gc_1,hx_gc_2,hf_gc_2⟩:=cells3 BC.out
    go_wp2
    first | go_end0 | ((try simp only [Exit.inBlock,Exit.then]);refine bodyPost_ret (results_none rfl _ _ _) rfl ?_)
    exact ⟨rfl,_,_,_,BS.out,B4.out,.inl (O_d.out),O_t2.out,.inl (O_c2.out),HB.out⟩
  | true =>
   cases fin with
   | false =>
    obtain ⟨hx_g_0,hf_g_0,hx_g_1,hf_g_1,hx_g_2,hf_g_2,hx_g_3,hf_g_3,hx_g_4,hf_g_4,hx_g_5,hf_g_5,hx_g_6,hf_g_6⟩:=cells7 BS.out
    obtain ⟨hx_gc_0,hf_gc_0,hx_gc_1,hf_gc_1,hx_gc_2,hf_gc_2⟩:=cells3 BC.out
    go_wp2
    first | go_end0 | ((try simp only [Exit.inBlock,Exit.then]);refine bodyPost_ret (results_none rfl _ _ _) rfl ?_)
    exact ⟨rfl,_,_,_,BS.out,B4.out,.inl (O_d.out),O_t2.out,.inl (O_c2.out),HB.out⟩
   | true =>
    obtain ⟨hx_g_0,hf_g_0,hx_g_1,hf_g_1,hx_g_2,hf_g_2,hx_g_3,hf_g_3,hx_g_4,hf_g_4,hx_g_5,hf_g_5,hx_g_6,hf_g_6⟩:=cells7 BS.out
    obtain ⟨hx_gc_0,hf_gc_0,hx_gc_1,hf_gc_1,hx_gc_2,hf_gc_2⟩:=cells3 BC.out
    go_wp2
    first | go_end0 | ((try simp only [Exit.inBlock,Exit.then]);refine bodyPost_ret (results_none rfl _ _ _) rfl ?_)
    exact ⟨rfl,_,_,_,blk_put (blk_put (BS.out) 6 (.bool true) (cs':=#[.int .u64 b,.slice B1 d.length q1,.slice D2 t2.length p2,.slice D3 c2.length p3,.bool true,.bool ft,.bool true]) rfl) 5 (.bool false) (cs':=#[.int .u64 b,.slice B1 d.length q1,.slice D2 t2.length p2,.slice D3 c2.length p3,.bool true,.bool false,.bool true]) rfl,blk_far (p:=⟨g,5,none⟩) (blk_far (p:=⟨g,6,none⟩) (B4.out) hne.symm (.bool true)) hne.symm (.bool false),.inl (Kd.R_mono (Kd.R_far (p:=⟨g,5,none⟩) (Kd.R_far (p:=⟨g,6,none⟩) (Kd.R_types O_d.out BS.out (ne_of rfl (by decide))) (fun _ hk => hk.2) (.bool true)) (fun _ hk => hk.2) (.bool false)) (fun _ _ => trivial)),Kd.R_mono (Kd.R_far (p:=⟨g,5,none⟩) (Kd.R_far (p:=⟨g,6,none⟩) (Kd.R_types O_t2.out BS.out (ne_of rfl (by decide))) (fun _ hk => hk.2) (.bool true)) (fun _ hk => hk.2) (.bool false)) (fun _ _ => trivial),.inl (Kd.R_mono (Kd.R_far (p:=⟨g,5,none⟩) (Kd.R_far (p:=⟨g,6,none⟩) (Kd.R_types O_c2.out BS.out (ne_of rfl (by decide))) (fun _ hk => hk.2) (.bool true)) (fun _ hk => hk.2) (.bool false)) (fun _ _ => trivial)),below_set (below_set (HB.out) GE.out (j:=6) (v:=.bool true)) GE.out (j:=5) (v:=.bool false)⟩
 case pos =>
  have kb0 : decide ((c2.length : Int) > 0) = true:=decide_eq_true (by omega)
  have kb1 : decide ((0 : Int) < (c2.length : Int)) = true:=decide_eq_true (by omega)
  have kb2 : decide (0 < c2.length) = true:=decide_eq_true k0
  obtain ⟨ad,e_,hxa,hxb⟩:=at_T37 (Kd.R_reads' O_c2.out).2.2 0 (by omega) (by omega)
  subst e_
  (try rw [show ((0 : Int)).toNat = 0 from rfl] at hxa)
  (try rw [show 0 * 2 = 0 from rfl] at hxa)
  (try rw [Addr.add_zero'] at hxa)
  (try rw [show ((0 : Int)).toNat = 0 from rfl] at hxb)
  (try rw [show 0 * 2 = 0 from rfl] at hxb)
  (try rw [Addr.add_zero'] at hxb)
  have hf_:=HF.out
  unfold supply_Came_1.f at hf_
  clear HF
  generalize (rd_T37 c2 0) = x at hxa hxb hf_
  have HXA:=Aside0.mk hxa
  have HXB:=Aside0.mk hxb
  have qi_ : (0 < c2.length) = True:=eq_true k0
  have qj_ : ((0 : Int) < (c2.length : Int)) = True:=eq_true (by omega)
  clear hxa hxb
  by_cases k1 : x.f0 = b
  case neg =>
   rw [if_neg (fun h => k1 h.2)] at hf_
   injection hf_ with hf_
   simp only [Prod.mk.injEq] at hf_
   obtain ⟨rfl,rfl,rfl⟩:=hf_
   have kc0 : (x.f0 == b) = false:=beq_eq_false_iff_ne.mpr k1
   go_upto_region 2 with fail
   obtain ⟨hx_g_0,hf_g_0,hx_g_1,hf_g_1,hx_g_2,hf_g_2,hx_g_3,hf_g_3,hx_g_4,hf_g_4,hx_g_5,hf_g_5,hx_g_6,hf_g_6⟩:=cells7 BS.out
   have hxa_:=HXA.out
   go_region
   clear hxa_
   clear hx_g_0 hf_g_0 hx_g_1 hf_g_1 hx_g_2 hf_g_2 hx_g_3 hf_g_3 hx_g_4 hf_g_4 hx_g_5 hf_g_5 hx_g_6 hf_g_6
   have n56_:=Aside0.mk (below_drew1 HB.out)
   have n57_:=Aside0.mk (blk_drew BS.out)
   have n58_:=Aside0.mk (blk_drew B4.out)
   have n59_:=Aside0.mk (blk_drew BC.out)
   have n60_:=Aside0.mk (Kd.R_drew O_d.out)
   have n61_:=Aside0.mk (Kd.R_drew O_c2.out)
   have n62_:=Aside0.mk (Kd.R_drew O_t2.out)
   have n63_:=Aside0.mk (show w9.drew.cell? ad = some (.int .u64 x.f0) from HXA.out)
   have n64_:=Aside0.mk (show w9.drew.cell? ⟨ad.block,ad.off + 1,none⟩ = some (.int .u64 x.f1) from HXB.out)
   clear HB BS B4 BC O_d O_c2 O_t2 HXA HXB
   have HB:=n56_
   have BS:=n57_
   have B4:=n58_
   have BC:=n59_
   have O_d:=n60_
   have O_c2:=n61_
   have O_t2:=n62_
   have HXA:=n63_
   have HXB:=n64_
   clear n56_ n57_ n58_ n59_ n60_ n61_ n62_ n63_ n64_
   generalize w9.drew = w10 at HB BS B4 BC O_d O_c2 O_t2 HXA HXB ⊢
   go_upto_region 5 with fail
   cases cf with
   | false =>
    cases fin with
    | false =>
     obtain ⟨hx_g_0,hf_g_0,hx_g_1,hf_g_1,hx_g_2,hf_g_2,hx_g_3,hf_g_3,hx_g_4,hf_g_4,hx_g_5,hf_g_5,hx_g_6,hf_g_6⟩:=cells7 BS.out
     obtain ⟨hx_gc_0,hf_gc_0,hx_gc_1,hf_gc_1,hx_gc_2,hf_gc_2⟩:=cells3 BC.out
     go_wp2
     first | go_end0 | ((try simp only [Exit.inBlock,Exit.then]);refine bodyPost_ret (results_none rfl _ _ _) rfl ?_)
     exact ⟨rfl,_,_,_,BS.out,B4.out,.inl (O_d.out),O_t2.out,.inl (O_c2.out),HB.out⟩
    | true =>
     obtain ⟨hx_g_0,hf_g_0,hx_g_1,hf_g_1,hx_g_2,hf_g_2,hx_g_3,hf_g_3,hx_g_4,hf_g_4,hx_g_5,hf_g_5,hx_g_6,hf_g_6⟩:=cells7 BS.out
     obtain ⟨hx_gc_0,hf_gc_0,hx_gc_1,hf_gc_1,hx_gc_2,hf_gc_2⟩:=cells3 BC.out
     go_wp2
     first | go_end0 | ((try simp only [Exit.inBlock,Exit.then]);refine bodyPost_ret (results_none rfl _ _ _) rfl ?_)
     exact ⟨rfl,_,_,_,BS.out,B4.out,.inl (O_d.out),O_t2.out,.inl (O_c2.out),HB.out⟩
   | true =>
    cases fin with
    | false =>
     obtain ⟨hx_g_0,hf_g_0,hx_g_1,hf_g_1,hx_g_2,hf_g_2,hx_g_3,hf_g_3,hx_g_4,hf_g_4,hx_g_5,hf_g_5,hx_g_6,hf_g_6⟩:=cells7 BS.out
     obtain ⟨hx_gc_0,hf_gc_0,hx_gc_1,hf_gc_1,hx_gc_2,hf_gc_2⟩:=cells3 BC.out
     go_wp2
     first | go_end0 | ((try simp only [Exit.inBlock,Exit.then]);refine bodyPost_ret (results_none rfl _ _ _) rfl ?_)
     exact ⟨rfl,_,_,_,BS.out,B4.out,.inl (O_d.out),O_t2.out,.inl (O_c2.out),HB.out⟩
    | true =>
     obtain ⟨hx_g_0,hf_g_0,hx_g_1,hf_g_1,hx_g_2,hf_g_2,hx_g_3,hf_g_3,hx_g_4,hf_g_4,hx_g_5,hf_g_5,hx_g_6,hf_g_6⟩:=cells7 BS.out
     obtain ⟨hx_gc_0,hf_gc_0,hx_gc_1,hf_gc_1,hx_gc_2,hf_gc_2⟩:=cells3 BC.out
     go_wp2
     first | go_end0 | ((try simp only [Exit.inBlock,Exit.then]);refine bodyPost_ret (results_none rfl _ _ _) rfl ?_)
     exact ⟨rfl,_,_,_,blk_put (blk_put (BS.out) 6 (.bool true) (cs':=#[.int .u64 b,.slice B1 d.length q1,.slice D2 t2.length p2,.slice (some ad) c2.length p3,.bool true,.bool ft,.bool true]) rfl) 5 (.bool false) (cs':=#[.int .u64 b,.slice B1 d.length q1,.slice D2 t2.length p2,.slice (some ad) c2.length p3,.bool true,.bool false,.bool true]) rfl,blk_far (p:=⟨g,5,none⟩) (blk_far (p:=⟨g,6,none⟩) (B4.out) hne.symm (.bool true)) hne.symm (.bool false),.inl (Kd.R_mono (Kd.R_far (p:=⟨g,5,none⟩) (Kd.R_far (p:=⟨g,6,none⟩) (Kd.R_types O_d.out BS.out (ne_of rfl (by decide))) (fun _ hk => hk.2) (.bool true)) (fun _ hk => hk.2) (.bool false)) (fun _ _ => trivial)),Kd.R_mono (Kd.R_far (p:=⟨g,5,none⟩) (Kd.R_far (p:=⟨g,6,none⟩) (Kd.R_types O_t2.out BS.out (ne_of rfl (by decide))) (fun _ hk => hk.2) (.bool true)) (fun _ hk => hk.2) (.bool false)) (fun _ _ => trivial),.inl (Kd.R_mono (Kd.R_far (p:=⟨g,5,none⟩) (Kd.R_far (p:=⟨g,6,none⟩) (Kd.R_types O_c2.out BS.out (ne_of rfl (by decide))) (fun _ hk => hk.2) (.bool true)) (fun _ hk => hk.2) (.bool false)) (fun _ _ => trivial)),below_set (below_set (HB.out) GE.out (j:=6) (v:=.bool true)) GE.out (j:=5) (v:=.bool false)⟩
  case pos =>
   rw [if_pos ⟨k0,k1⟩] at hf_
   by_cases k2 : b ≤ x.f1 ∧ x.f1 - b ≤ (d.length : Int)
   case neg => rw [if_neg k2] at hf_;cases hf_
   rw [if_pos k2] at hf_
   injection hf_ with hf_
   simp only [Prod.mk.injEq] at hf_
   obtain ⟨rfl,rfl,rfl⟩:=hf_
   have kc0 : (x.f0 == b) = true:=beq_iff_eq.mpr k1
   go_upto_region 2 with fail
   obtain ⟨hx_g_0,hf_g_0,hx_g_1,hf_g_1,hx_g_2,hf_g_2,hx_g_3,hf_g_3,hx_g_4,hf_g_4,hx_g_5,hf_g_5,hx_g_6,hf_g_6⟩:=cells7 BS.out
   have hxa_:=HXA.out
   go_region
   clear hxa_
   clear hx_g_0 hf_g_0 hx_g_1 hf_g_1 hx_g_2 hf_g_2 hx_g_3 hf_g_3 hx_g_4 hf_g_4 hx_g_5 hf_g_5 hx_g_6 hf_g_6
   have n56_:=Aside0.mk (below_drew1 HB.out)
   have n57_:=Aside0.mk (blk_drew BS.out)
   have n58_:=Aside0.mk (blk_drew B4.out)
   have n59_:=Aside0.mk (blk_drew BC.out)
   have n60_:=Aside0.mk (Kd.R_drew O_d.out)
   have n61_:=Aside0.mk (Kd.R_drew O_c2.out)
   have n62_:=Aside0.mk (Kd.R_drew O_t2.out)
   have n63_:=Aside0.mk (show w9.drew.cell? ad = some (.int .u64 x.f0) from HXA.out)
   have n64_:=Aside0.mk (show w9.drew.cell? ⟨ad.block,ad.off + 1,none⟩ = some (.int .u64 x.f1) from HXB.out)
   clear HB BS B4 BC O_d O_c2 O_t2 HXA HXB
   have HB:=n56_
   have BS:=n57_
   have B4:=n58_
   have BC:=n59_
   have O_d:=n60_
   have O_c2:=n61_
   have O_t2:=n62_
   have HXA:=n63_
   have HXB:=n64_
   clear n56_ n57_ n58_ n59_ n60_ n61_ n62_ n63_ n64_
   generalize w9.drew = w10 at HB BS B4 BC O_d O_c2 O_t2 HXA HXB ⊢
   obtain ⟨hx_g_0,hf_g_0,hx_g_1,hf_g_1,hx_g_2,hf_g_2,hx_g_3,hf_g_3,hx_g_4,hf_g_4,hx_g_5,hf_g_5,hx_g_6,hf_g_6⟩:=cells7 BS.out
   have hxb_:=HXB.out
   go_upto_region 4 with fail
   obtain ⟨m,hm⟩ : ∃ m : Int,x.f1 - b = m:=⟨_,rfl⟩
   have hw : IntKind.u64.wrap (x.f1 - b) = m:=by rw [IntKind.wrap_u64];have h_:=HL.out;omega
   rw [hm] at k2
   obtain ⟨i_d,hi_d,_,hsz_d,_⟩:=info_parts info5
   have hcut_d:=cut_from (P:=Try.prog) 22 5 .u64 Try.underlying22 hi_d 1 hsz_d B1 d.length q1 m (by omega) (by omega)
   obtain ⟨i_c,hi_c,_,hsz_c,_⟩:=info_parts info37
   have hcut_c:=cut_from (P:=Try.prog) 25 37 .i64 Try.underlying25 hi_c 2 hsz_c (some ad) c2.length p3 (1 : Int) (by omega) (by omega)
   obtain ⟨d2,hd2⟩ : ∃ y_ : List Int,d.drop m.toNat = y_:=⟨_,rfl⟩
   obtain ⟨c3,hc3⟩ : ∃ y_ : List S37,c2.drop 1 = y_:=⟨_,rfl⟩
   obtain ⟨A4,hA4⟩ : ∃ A_ : Option Addr,(if q1 = m.toNat then B1 else B1.map (·.add (m.toNat * 1))) = A_:=⟨_,rfl⟩
   obtain ⟨A5,hA5⟩ : ∃ A_ : Option Addr,(if p3 = 1 then some ad else (some ad : Option Addr).map (·.add (1 * 2))) = A_:=⟨_,rfl⟩
   obtain ⟨q4,hq4⟩ : ∃ q_ : Nat,q1 - m.toNat = q_:=⟨_,rfl⟩
   obtain ⟨q5,hq5⟩ : ∃ q_ : Nat,p3 - 1 = q_:=⟨_,rfl⟩
   rw [show d.length - m.toNat = d2.length by rw [← hd2,List.length_drop],hA4,hq4] at hcut_d
   rw [show (1 : Int).toNat = 1 from rfl,show c2.length - 1 = c3.length by rw [← hc3,List.length_drop],hA5,hq5] at hcut_c
   have HM : Aside0 (m.toNat ≤ d.length ∧ Value.slice A4 d2.length q4 = .slice (if q1 = m.toNat then B1 else B1.map (·.add (m.toNat * 1))) (d.drop m.toNat).length (q1 - m.toNat) ∧ 1 ≤ c2.length ∧ Value.slice A5 c3.length q5 = .slice (if p3 = 1 then some ad else (some ad : Option Addr).map (·.add (1 * 2))) (c2.drop 1).length (p3 - 1)):=⟨⟨by omega,by rw [hA4,hq4,hd2],by omega,by rw [hA5,hq5,hc3]⟩⟩
   have HMM:=Aside0.mk hm
   clear hm hd2 hc3 hA4 hA5 hq4 hq5
   go_region
   clear hxb_
   have n65_ : Aside0 ((((w10.setCell ⟨g,1,none⟩ (.slice A4 d2.length q4)).setCell ⟨g,0,none⟩ (.int .u64 x.f1)).setCell ⟨g,3,none⟩ (.slice A5 c3.length q5)).heap[g]? = some (.cells #[.int .u64 x.f1,.slice A4 d2.length q4,.slice D2 t2.length p2,.slice A5 c3.length q5,.bool fin,.bool ft,.bool fc] 27 (0,0))):=⟨blk_put (blk_put (blk_put (BS.out) 1 (.slice A4 d2.length q4) (cs':=#[.int .u64 b,.slice A4 d2.length q4,.slice D2 t2.length p2,.slice (some ad) c2.length p3,.bool fin,.bool ft,.bool fc]) rfl) 0 (.int .u64 x.f1) (cs':=#[.int .u64 x.f1,.slice A4 d2.length q4,.slice D2 t2.length p2,.slice (some ad) c2.length p3,.bool fin,.bool ft,.bool fc]) rfl) 3 (.slice A5 c3.length q5) (cs':=#[.int .u64 x.f1,.slice A4 d2.length q4,.slice D2 t2.length p2,.slice A5 c3.length q5,.bool fin,.bool ft,.bool fc]) rfl⟩
   have n66_ : Aside0 ((((w10.setCell ⟨g,1,none⟩ (.slice A4 d2.length q4)).setCell ⟨g,0,none⟩ (.int .u64 x.f1)).setCell ⟨g,3,none⟩ (.slice A5 c3.length q5)).heap[g4]? = some (.cells cs4 27 (0,0))):=⟨blk_far (p:=⟨g,3,none⟩) (blk_far (p:=⟨g,0,none⟩) (blk_far (p:=⟨g,1,none⟩) (B4.out) hne.symm (.slice A4 d2.length q4)) hne.symm (.int .u64 x.f1)) hne.symm (.slice A5 c3.length q5)⟩
   have n67_ : Aside0 ((((w10.setCell ⟨g,1,none⟩ (.slice A4 d2.length q4)).setCell ⟨g,0,none⟩ (.int .u64 x.f1)).setCell ⟨g,3,none⟩ (.slice A5 c3.length q5)).heap[gc]? = some (.cells #[.int .u64 off,.slice Ac cl.length cc,.bool cf] 32 (0,0))):=⟨blk_far (p:=⟨g,3,none⟩) (blk_far (p:=⟨g,0,none⟩) (blk_far (p:=⟨g,1,none⟩) (BC.out) NE_gc (.slice A4 d2.length q4)) NE_gc (.int .u64 x.f1)) NE_gc (.slice A5 c3.length q5)⟩
   have n68_ : Aside0 (Kd.R (Kd.int .u8) 5 (((w10.setCell ⟨g,1,none⟩ (.slice A4 d2.length q4)).setCell ⟨g,0,none⟩ (.int .u64 x.f1)).setCell ⟨g,3,none⟩ (.slice A5 c3.length q5)) w0.heap.size (fun _ => True) (.slice B1 d.length q1) (d)):=⟨Kd.R_mono (Kd.R_far (p:=⟨g,3,none⟩) (Kd.R_far (p:=⟨g,0,none⟩) (Kd.R_far (p:=⟨g,1,none⟩) (Kd.R_types O_d.out BS.out (ne_of rfl (by decide))) (fun _ hk => hk.2) (.slice A4 d2.length q4)) (fun _ hk => hk.2) (.int .u64 x.f1)) (fun _ hk => hk.2) (.slice A5 c3.length q5)) (fun _ _ => trivial)⟩
   have n69_ : Aside0 (Kd.R k37 37 (((w10.setCell ⟨g,1,none⟩ (.slice A4 d2.length q4)).setCell ⟨g,0,none⟩ (.int .u64 x.f1)).setCell ⟨g,3,none⟩ (.slice A5 c3.length q5)) w0.heap.size (fun _ => True) (.slice (some ad) c2.length p3) (c2)):=⟨Kd.R_mono (Kd.R_far (p:=⟨g,3,none⟩) (Kd.R_far (p:=⟨g,0,none⟩) (Kd.R_far (p:=⟨g,1,none⟩) (Kd.R_types O_c2.out BS.out (ne_of rfl (by decide))) (fun _ hk => hk.2) (.slice A4 d2.length q4)) (fun _ hk => hk.2) (.int .u64 x.f1)) (fun _ hk => hk.2) (.slice A5 c3.length q5)) (fun _ _ => trivial)⟩
   have n70_ : Aside0 (Kd.R k37 37 (((w10.setCell ⟨g,1,none⟩ (.slice A4 d2.length q4)).setCell ⟨g,0,none⟩ (.int .u64 x.f1)).setCell ⟨g,3,none⟩ (.slice A5 c3.length q5)) w0.heap.size (fun _ => True) (.slice D2 t2.length p2) (t2)):=⟨Kd.R_mono (Kd.R_far (p:=⟨g,3,none⟩) (Kd.R_far (p:=⟨g,0,none⟩) (Kd.R_far (p:=⟨g,1,none⟩) (Kd.R_types O_t2.out BS.out (ne_of rfl (by decide))) (fun _ hk => hk.2) (.slice A4 d2.length q4)) (fun _ hk => hk.2) (.int .u64 x.f1)) (fun _ hk => hk.2) (.slice A5 c3.length q5)) (fun _ _ => trivial)⟩
   have n71_ : Aside0 (Below w0.heap.size w0 (((w10.setCell ⟨g,1,none⟩ (.slice A4 d2.length q4)).setCell ⟨g,0,none⟩ (.int .u64 x.f1)).setCell ⟨g,3,none⟩ (.slice A5 c3.length q5))):=⟨below_set (below_set (below_set (HB.out) GE.out (j:=1) (v:=.slice A4 d2.length q4)) GE.out (j:=0) (v:=.int .u64 x.f1)) GE.out (j:=3) (v:=.slice A5 c3.length q5)⟩
   clear BS B4 BC O_d O_c2 O_t2 HB
   have BS:=n65_
   have B4:=n66_
   have BC:=n67_
   have O_d:=n68_
   have O_c2:=n69_
   have O_t2:=n70_
   have HB:=n71_
   clear n65_ n66_ n67_ n68_ n69_ n70_ n71_
   generalize (((w10.setCell ⟨g,1,none⟩ (.slice A4 d2.length q4)).setCell ⟨g,0,none⟩ (.int .u64 x.f1)).setCell ⟨g,3,none⟩ (.slice A5 c3.length q5)) = w12 at BS B4 BC O_d O_c2 O_t2 HB ⊢
   have n72_:=Aside0.mk (below_drew1 HB.out)
   have n73_:=Aside0.mk (blk_drew BS.out)
   have n74_:=Aside0.mk (blk_drew B4.out)
   have n75_:=Aside0.mk (blk_drew BC.out)
   have n76_:=Aside0.mk (Kd.R_drew O_d.out)
   have n77_:=Aside0.mk (Kd.R_drew O_c2.out)
   have n78_:=Aside0.mk (Kd.R_drew O_t2.out)
   clear HB BS B4 BC O_d O_c2 O_t2
   have HB:=n72_
   have BS:=n73_
   have B4:=n74_
   have BC:=n75_
   have O_d:=n76_
   have O_c2:=n77_
   have O_t2:=n78_
   clear n72_ n73_ n74_ n75_ n76_ n77_ n78_
   generalize w12.drew = w13 at HB BS B4 BC O_d O_c2 O_t2 ⊢
   go_upto_region 5 with fail
   cases cf with
   | false =>
    cases fin with
    | false =>
     obtain ⟨hx_g_0,hf_g_0,hx_g_1,hf_g_1,hx_g_2,hf_g_2,hx_g_3,hf_g_3,hx_g_4,hf_g_4,hx_g_5,hf_g_5,hx_g_6,hf_g_6⟩:=cells7 BS.out
     obtain ⟨hx_gc_0,hf_gc_0,hx_gc_1,hf_gc_1,hx_gc_2,hf_gc_2⟩:=cells3 BC.out
     go_wp2
     first | go_end0 | ((try simp only [Exit.inBlock,Exit.then]);refine bodyPost_ret (results_none rfl _ _ _) rfl ?_)
     exact ⟨rfl,_,_,_,BS.out,B4.out,.inr ⟨_,_,d,m.toNat,(O_d.out),HM.out.1,HM.out.2.1,by rw [HMM.out]⟩,O_t2.out,.inr ⟨_,_,c2,1,(O_c2.out),HM.out.2.2.1,HM.out.2.2.2,by simp⟩,HB.out⟩
    | true =>
     obtain ⟨hx_g_0,hf_g_0,hx_g_1,hf_g_1,hx_g_2,hf_g_2,hx_g_3,hf_g_3,hx_g_4,hf_g_4,hx_g_5,hf_g_5,hx_g_6,hf_g_6⟩:=cells7 BS.out
     obtain ⟨hx_gc_0,hf_gc_0,hx_gc_1,hf_gc_1,hx_gc_2,hf_gc_2⟩:=cells3 BC.out
     go_wp2
     first | go_end0 | ((try simp only [Exit.inBlock,Exit.then]);refine bodyPost_ret (results_none rfl _ _ _) rfl ?_)
     exact ⟨rfl,_,_,_,BS.out,B4.out,.inr ⟨_,_,d,m.toNat,(O_d.out),HM.out.1,HM.out.2.1,by rw [HMM.out]⟩,O_t2.out,.inr ⟨_,_,c2,1,(O_c2.out),HM.out.2.2.1,HM.out.2.2.2,by simp⟩,HB.out⟩
   | true =>
    cases fin with
    | false =>
     obtain ⟨hx_g_0,hf_g_0,hx_g_1,hf_g_1,hx_g_2,hf_g_2,hx_g_3,hf_g_3,hx_g_4,hf_g_4,hx_g_5,hf_g_5,hx_g_6,hf_g_6⟩:=cells7 BS.out
     obtain ⟨hx_gc_0,hf_gc_0,hx_gc_1,hf_gc_1,hx_gc_2,hf_gc_2⟩:=cells3 BC.out
     go_wp2
     first | go_end0 | ((try simp only [Exit.inBlock,Exit.then]);refine bodyPost_ret (results_none rfl _ _ _) rfl ?_)
     exact ⟨rfl,_,_,_,BS.out,B4.out,.inr ⟨_,_,d,m.toNat,(O_d.out),HM.out.1,HM.out.2.1,by rw [HMM.out]⟩,O_t2.out,.inr ⟨_,_,c2,1,(O_c2.out),HM.out.2.2.1,HM.out.2.2.2,by simp⟩,HB.out⟩
    | true =>
     obtain ⟨hx_g_0,hf_g_0,hx_g_1,hf_g_1,hx_g_2,hf_g_2,hx_g_3,hf_g_3,hx_g_4,hf_g_4,hx_g_5,hf_g_5,hx_g_6,hf_g_6⟩:=cells7 BS.out
     obtain ⟨hx_gc_0,hf_gc_0,hx_gc_1,hf_gc_1,hx_gc_2,hf_gc_2⟩:=cells3 BC.out
     go_wp2
     first | go_end0 | ((try simp only [Exit.inBlock,Exit.then]);refine bodyPost_ret (results_none rfl _ _ _) rfl ?_)
     exact ⟨rfl,_,_,_,blk_put (blk_put (BS.out) 6 (.bool true) (cs':=#[.int .u64 x.f1,.slice A4 d2.length q4,.slice D2 t2.length p2,.slice A5 c3.length q5,.bool true,.bool ft,.bool true]) rfl) 5 (.bool false) (cs':=#[.int .u64 x.f1,.slice A4 d2.length q4,.slice D2 t2.length p2,.slice A5 c3.length q5,.bool true,.bool false,.bool true]) rfl,blk_far (p:=⟨g,5,none⟩) (blk_far (p:=⟨g,6,none⟩) (B4.out) hne.symm (.bool true)) hne.symm (.bool false),.inr ⟨_,_,d,m.toNat,(Kd.R_mono (Kd.R_far (p:=⟨g,5,none⟩) (Kd.R_far (p:=⟨g,6,none⟩) (Kd.R_types O_d.out BS.out (ne_of rfl (by decide))) (fun _ hk => hk.2) (.bool true)) (fun _ hk => hk.2) (.bool false)) (fun _ _ => trivial)),HM.out.1,HM.out.2.1,by rw [HMM.out]⟩,Kd.R_mono (Kd.R_far (p:=⟨g,5,none⟩) (Kd.R_far (p:=⟨g,6,none⟩) (Kd.R_types O_t2.out BS.out (ne_of rfl (by decide))) (fun _ hk => hk.2) (.bool true)) (fun _ hk => hk.2) (.bool false)) (fun _ _ => trivial),.inr ⟨_,_,c2,1,(Kd.R_mono (Kd.R_far (p:=⟨g,5,none⟩) (Kd.R_far (p:=⟨g,6,none⟩) (Kd.R_types O_c2.out BS.out (ne_of rfl (by decide))) (fun _ hk => hk.2) (.bool true)) (fun _ hk => hk.2) (.bool false)) (fun _ _ => trivial)),HM.out.2.2.1,HM.out.2.2.2,by simp⟩,below_set (below_set (HB.out) GE.out (j:=6) (v:=.bool true)) GE.out (j:=5) (v:=.bool false)⟩

end Go.Proofs.Ytadhkamocbhbmaa.P
