-- Printed for this claim by xprint.py of this session: contracts of this session's own stand in for what the print does not take
import Derived.Test.YtadhkamocbhbmaaPx0
import Derived.Test.YtadhkamocbhbmaaPx2
import Derived.Test.YtadhkamocbhbmaaPx4
namespace Go.Proofs.Ytadhkamocbhbmaa.P
open Go.RowKit Go.Proofs.YtadhkamocbhbmaaW.PrintWords Go.Proofs.YtadhkamocbhbmaaW.PrintLast Go.Proofs.YtadhkamocbhbmaaW.PrintMore
attribute [local go_sem] max2_int min2_int max_two min_two max_three min_three max_four min_four   -- for this text's walks alone
set_option linter.unusedVariables false
set_option linter.unusedSimpArgs false

/-! ### supply_Write_1: function 20 -/
set_option maxHeartbeats 8000000 in
set_option maxRecDepth 100000 in
theorem supply_Write_1.hand (gd ge : Nat) (Ad : Option Addr) (cd : Nat) (l dl : List Int) (e e2 : Int) (k : Nat) (t2 : List S37) (b : Int) (d : List Int) (t c : List S37) (v1 v2 v3 : Value) (fin ft fc : Bool) (g g4 : Nat) (cs4 : Array Value) (w0 W : World)
  (hb : W.heap[g]? = some (.cells #[.int .u64 b,v1,v2,v3,.bool fin,.bool ft,.bool fc] 27 (0,0))) (hb4 : W.heap[g4]? = some (.cells cs4 27 (0,0))) (hne : g ≠ g4) (hge : w0.heap.size ≤ g) (r1 : Kd.R (Kd.int .u8) 5 W w0.heap.size (fun _ => True) v1 d) (r2 : Kd.R k37 37 W w0.heap.size (fun _ => True) v2 t) (r3 : Kd.R k37 37 W w0.heap.size (fun _ => True) v3 c) (hB : Below w0.heap.size w0 W) (hgd : W.heap[gd]? = some (.cells #[.slice Ad l.length cd] 22 (0,0))) (hge_ : W.heap[ge]? = some (.cells #[.int .u64 e] 24 (0,0))) (hC : Kd.C (Kd.int .u8) w0 Ad l.length l) (hN : d.length + l.length < 1000000000) (hdl : dl = d ++ l) (hE : IntKind.u64.wrap (b + IntKind.u64.wrap (dl.length : Int)) = e2) (hT : span_Add.f k t e e2 = some t2) :
  Calls Try.prog 20 #[.pointer (some ⟨g,0,none⟩),.pointer (some ⟨gd,0,none⟩),.pointer (some ⟨ge,0,none⟩)] W fun e_ W2 => e_ = .returned (.tuple #[]) ∧ ∃ u1 u2 : Value,W2.heap[g]? = some (.cells #[.int .u64 b,u1,u2,v3,.bool fin,.bool ft,.bool fc] 27 (0,0)) ∧ W2.heap[g4]? = some (.cells cs4 27 (0,0)) ∧ Kd.R (Kd.int .u8) 5 W2 w0.heap.size (fun _ => True) u1 dl ∧ Kd.R k37 37 W2 w0.heap.size (fun _ => True) u2 t2 ∧ Kd.R k37 37 W2 w0.heap.size (fun _ => True) v3 c ∧ Below w0.heap.size w0 W2:=by
 obtain ⟨B1,q1,e1_⟩:=Kd.R_slice r1
 subst e1_
 obtain ⟨B2,q2,e2_⟩:=Kd.R_slice r2
 subst e2_
 obtain ⟨B3,q3,e3_⟩:=Kd.R_slice r3
 subst e3_
 have BS:=Aside0.mk hb
 have B4:=Aside0.mk hb4
 have GE:=Aside0.mk hge
 have O_d:=Aside0.mk r1
 have O_t:=Aside0.mk r2
 have O_c:=Aside0.mk r3
 have HB:=Aside0.mk hB
 clear hb hb4 hge r1 r2 r3 hB
 have BD:=Aside0.mk hgd
 have NE_gd : gd ≠ g:=blk_ne BD.out BS.out (by decide)
 clear hgd
 have BE:=Aside0.mk hge_
 have NE_ge : ge ≠ g:=blk_ne BE.out BS.out (by decide)
 clear hge_
 have HC:=Aside0.mk hC
 have HN:=Aside0.mk hN
 have HDL:=Aside0.mk hdl
 have HE:=Aside0.mk hE
 have HT:=Aside0.mk hT
 clear hC hN hdl hE hT
 go_enter Try.func20,Try.ntmps20
 go_upto_region 0 with fail
 have n1_:=Aside0.mk (below_drew1 HB.out)
 have n2_:=Aside0.mk (blk_drew BS.out)
 have n3_:=Aside0.mk (blk_drew B4.out)
 have n4_:=Aside0.mk (blk_drew BD.out)
 have n5_:=Aside0.mk (blk_drew BE.out)
 have n6_:=Aside0.mk (Kd.R_drew O_d.out)
 have n7_:=Aside0.mk (Kd.R_drew O_t.out)
 have n8_:=Aside0.mk (Kd.R_drew O_c.out)
 clear HB BS B4 BD BE O_d O_t O_c
 have HB:=n1_
 have BS:=n2_
 have B4:=n3_
 have BD:=n4_
 have BE:=n5_
 have O_d:=n6_
 have O_t:=n7_
 have O_c:=n8_
 clear n1_ n2_ n3_ n4_ n5_ n6_ n7_ n8_
 (try simp only [Act.put,List.setIfInBounds_toArray,List.set_cons_zero,List.set_cons_succ])
 refine start_ (n:=10) (S:=fun w' => w'.cell? ⟨g,0,none⟩ = some (.int .u64 b) ∧ w'.cell? ⟨g,1,none⟩ = some (.slice B1 d.length q1) ∧ w'.cell? ⟨g,2,none⟩ = some (.slice B2 t.length q2) ∧ w'.cell? ⟨g,3,none⟩ = some (.slice B3 c.length q3) ∧ w'.cell? ⟨g,4,none⟩ = some (.bool fin) ∧ w'.cell? ⟨g,5,none⟩ = some (.bool ft) ∧ w'.cell? ⟨g,6,none⟩ = some (.bool fc) ∧ w'.cell? ⟨gd,0,none⟩ = some (.slice Ad l.length cd)) (ds:=[9]) #[false,false,false,false,false,false,false,false,false,false] (by kernel_rfl) rfl rfl ⟨(blk_cell BS.out 0).trans rfl,(blk_cell BS.out 1).trans rfl,(blk_cell BS.out 2).trans rfl,(blk_cell BS.out 3).trans rfl,(blk_cell BS.out 4).trans rfl,(blk_cell BS.out 5).trans rfl,(blk_cell BS.out 6).trans rfl,(blk_cell BD.out 0).trans rfl⟩ (fun hHeld => ?_)
 generalize W.drew = w5 at HB BS B4 BD BE O_d O_t O_c hHeld ⊢
 refine pure_ (i:=0) (N:=some 4) (v:=?_) (a':=?_) #[true,false,false,false,false,false,false,false,false,false] rfl rfl (by kernel_rfl) (fun _ _ _ h => h) (Or.inl ⟨by rfl,?_⟩) ?_ ?_
 rotate_left
 ·intro w'
  go_simp
  with_reducible rfl
 rotate_left
 ·simp only [Act.put,List.setIfInBounds_toArray,List.set_cons_zero,List.set_cons_succ,i64_w,i32_w]
  rfl
 refine pure_ (i:=1) (N:=some 5) (v:=?_) (a':=?_) #[true,true,false,false,false,false,false,false,false,false] rfl rfl (by kernel_rfl) (fun _ _ _ h => h) (Or.inl ⟨by rfl,?_⟩) ?_ ?_
 rotate_left
 ·intro w'
  go_simp
  with_reducible rfl
 rotate_left
 ·simp only [Act.put,List.setIfInBounds_toArray,List.set_cons_zero,List.set_cons_succ,i64_w,i32_w]
  rfl
 refine pure_ (i:=2) (N:=some 6) (v:=?_) (a':=?_) #[true,true,true,false,false,false,false,false,false,false] rfl rfl (by kernel_rfl) (fun _ _ _ h => h) (Or.inl ⟨by rfl,?_⟩) ?_ ?_
 rotate_left
 ·intro w'
  go_simp
  with_reducible rfl
 rotate_left
 ·simp only [Act.put,List.setIfInBounds_toArray,List.set_cons_zero,List.set_cons_succ,i64_w,i32_w]
  rfl
 refine pure_ (i:=3) (N:=some 7) (v:=?_) (a':=?_) #[true,true,true,true,false,false,false,false,false,false] rfl rfl (by kernel_rfl) (fun _ _ _ h => h) (Or.inl ⟨by rfl,?_⟩) ?_ ?_
 rotate_left
 ·intro w'
  go_simp
  with_reducible rfl
 rotate_left
 ·simp only [Act.put,List.setIfInBounds_toArray,List.set_cons_zero,List.set_cons_succ,i64_w,i32_w]
  rfl
 refine take_ (i:=4) (N:=some 8) (v:=?_) (a':=?_) #[true,true,true,true,true,false,false,false,false,false] rfl rfl (by kernel_rfl) (fun _ _ _ h => h) (Or.inl ⟨by rfl,?_⟩) hHeld ?_ ?_
 rotate_left
 ·rintro w' ⟨s0,s1,s2,s3,s4,s5,s6,s7⟩
  go_simp
  with_reducible rfl
 rotate_left
 ·simp only [Act.put,List.setIfInBounds_toArray,List.set_cons_zero,List.set_cons_succ,i64_w,i32_w]
  rfl
 refine take_ (i:=5) (N:=some 9) (v:=?_) (a':=?_) #[true,true,true,true,true,true,false,false,false,false] rfl rfl (by kernel_rfl) (fun _ _ _ h => h) (Or.inl ⟨by rfl,?_⟩) hHeld ?_ ?_
 rotate_left
 ·rintro w' ⟨s0,s1,s2,s3,s4,s5,s6,s7⟩
  go_simp
  with_reducible rfl
 rotate_left
 ·simp only [Act.put,List.setIfInBounds_toArray,List.set_cons_zero,List.set_cons_succ,i64_w,i32_w]
  rfl
 refine one_ (i:=6) (N:=some 10) #[true,true,true,true,true,true,true,false,false,false] rfl rfl (by kernel_rfl) (by decide) (fun K hK => ?_)
 refine Kd.R_append_rows_step (Kd.int .u8) (w0:=w0) w0.heap.size (by rfl) (.tmp 8) (.tmp 9) 22 5 (.int .u8 0) 1 rfl Try.underlying22 info5 rfl (by decide) (by omega) (.slice B1 d.length q1) d l _ _ _ (fun _ => True) (fun _ => False) rfl rfl ?aO ?aR (fun _ _ h => h) (fun _ h => h.elim) ?aF ?aB ?aS ?aL ?_
 (case aR => exact Kd.C_below HC.out HB.out)
 (case aO => exact O_d.out)
 (case aB => exact HB.out)
 (case aF => exact fun _ _ => trivial)
 (case aS => exact HB.out.size)
 (case aL => have h_:=HN.out;omega)
 intro u_ w6 ho hb hg hat
 rw [← HDL.out] at ho
 have n9_:=Aside0.mk (hb)
 have n10_:=Aside0.mk (blk_grown BS.out hg (Kd.R_ne O_d.out BS.out (by decide)))
 have n11_:=Aside0.mk (blk_grown B4.out hg (Kd.R_ne O_d.out B4.out (by decide)))
 have n12_:=Aside0.mk (blk_grown BD.out hg (Kd.R_ne O_d.out BD.out (by decide)))
 have n13_:=Aside0.mk (blk_grown BE.out hg (Kd.R_ne O_d.out BE.out (by decide)))
 have n14_:=Aside0.mk (Kd.R_mono (Kd.R_grown (Kd.R_apartR O_t.out O_d.out (ne_of rfl (by decide))) hg (fun _ hk => hk.2)) (fun _ _ => trivial))
 have n15_:=Aside0.mk (Kd.R_mono (Kd.R_grown (Kd.R_apartR O_c.out O_d.out (ne_of rfl (by decide))) hg (fun _ hk => hk.2)) (fun _ _ => trivial))
 clear HB BS B4 BD BE O_t O_c
 have HB:=n9_
 have BS:=n10_
 have B4:=n11_
 have BD:=n12_
 have BE:=n13_
 have O_t:=n14_
 have O_c:=n15_
 clear n9_ n10_ n11_ n12_ n13_ n14_ n15_
 clear O_d
 have O_dl:=Aside0.mk ho
 clear ho hb hg hat
 obtain ⟨D1,p1,eo⟩:=Kd.R_slice O_dl.out
 subst eo
 obtain ⟨hx_g_0,hf_g_0,hx_g_1,hf_g_1,hx_g_2,hf_g_2,hx_g_3,hf_g_3,hx_g_4,hf_g_4,hx_g_5,hf_g_5,hx_g_6,hf_g_6⟩:=cells7 BS.out
 refine hK.out _ _ ⟨(blk_cell BS.out 0).trans rfl,(blk_cell BS.out 1).trans rfl,(blk_cell BS.out 2).trans rfl,(blk_cell BS.out 3).trans rfl,(blk_cell BS.out 4).trans rfl,(blk_cell BS.out 5).trans rfl,(blk_cell BS.out 6).trans rfl,(blk_cell BD.out 0).trans rfl⟩ (fun hHeld => ?_)
 clear hK K
 refine norm_ (a':=?_) ?_ ?_
 rotate_left
 ·show Act.put _ (some 10) _ = _
  simp only [Act.put,List.setIfInBounds_toArray,List.set_cons_zero,List.set_cons_succ,i64_w,i32_w]
  rfl
 refine pure_ (i:=7) (N:=some 11) (v:=?_) (a':=?_) #[true,true,true,true,true,true,true,true,false,false] rfl rfl (by kernel_rfl) (fun _ _ _ h => h) (Or.inl ⟨by rfl,?_⟩) ?_ ?_
 rotate_left
 ·intro w'
  go_simp
  with_reducible rfl
 rotate_left
 ·simp only [Act.put,List.setIfInBounds_toArray,List.set_cons_zero,List.set_cons_succ,i64_w,i32_w]
  rfl
 refine pure_ (i:=8) (N:=some 12) (v:=?_) (a':=?_) #[true,true,true,true,true,true,true,true,true,false] rfl rfl (by kernel_rfl) (fun _ _ _ h => h) (Or.inl ⟨by rfl,?_⟩) ?_ ?_
 rotate_left
 ·intro w'
  go_simp
  with_reducible rfl
 rotate_left
 ·simp only [Act.put,List.setIfInBounds_toArray,List.set_cons_zero,List.set_cons_succ,i64_w,i32_w]
  rfl
 refine last_ (i:=9) (N:=none) #[true,true,true,true,true,true,true,true,true,true] rfl rfl (by kernel_rfl) (by decide) (fun K hK => ?_)
 refine skip_ (w1:=?_) (by rfl) rfl ?_ ?_
 rotate_left
 ·go_simp
  rfl
 refine hK.out _ _ ?_
 clear hK K
 refine done_ (by kernel_rfl) ?_
 clear hx_g_0 hf_g_0 hx_g_1 hf_g_1 hx_g_2 hf_g_2 hx_g_3 hf_g_3 hx_g_4 hf_g_4 hx_g_5 hf_g_5 hx_g_6 hf_g_6
 have n16_ : Aside0 ((w6.setCell ⟨g,1,none⟩ (.slice D1 dl.length p1)).heap[g]? = some (.cells #[.int .u64 b,.slice D1 dl.length p1,.slice B2 t.length q2,.slice B3 c.length q3,.bool fin,.bool ft,.bool fc] 27 (0,0))):=⟨blk_put (BS.out) 1 (.slice D1 dl.length p1) (cs':=#[.int .u64 b,.slice D1 dl.length p1,.slice B2 t.length q2,.slice B3 c.length q3,.bool fin,.bool ft,.bool fc]) rfl⟩
 have n17_ : Aside0 ((w6.setCell ⟨g,1,none⟩ (.slice D1 dl.length p1)).heap[g4]? = some (.cells cs4 27 (0,0))):=⟨blk_far (p:=⟨g,1,none⟩) (B4.out) hne.symm (.slice D1 dl.length p1)⟩
 have n18_ : Aside0 ((w6.setCell ⟨g,1,none⟩ (.slice D1 dl.length p1)).heap[gd]? = some (.cells #[.slice Ad l.length cd] 22 (0,0))):=⟨blk_far (p:=⟨g,1,none⟩) (BD.out) NE_gd (.slice D1 dl.length p1)⟩
 have n19_ : Aside0 ((w6.setCell ⟨g,1,none⟩ (.slice D1 dl.length p1)).heap[ge]? = some (.cells #[.int .u64 e] 24 (0,0))):=⟨blk_far (p:=⟨g,1,none⟩) (BE.out) NE_ge (.slice D1 dl.length p1)⟩
 have n20_ : Aside0 (Kd.R k37 37 (w6.setCell ⟨g,1,none⟩ (.slice D1 dl.length p1)) w0.heap.size (fun _ => True) (.slice B2 t.length q2) (t)):=⟨Kd.R_mono (Kd.R_far (p:=⟨g,1,none⟩) (Kd.R_types O_t.out BS.out (ne_of rfl (by decide))) (fun _ hk => hk.2) (.slice D1 dl.length p1)) (fun _ _ => trivial)⟩
 have n21_ : Aside0 (Kd.R k37 37 (w6.setCell ⟨g,1,none⟩ (.slice D1 dl.length p1)) w0.heap.size (fun _ => True) (.slice B3 c.length q3) (c)):=⟨Kd.R_mono (Kd.R_far (p:=⟨g,1,none⟩) (Kd.R_types O_c.out BS.out (ne_of rfl (by decide))) (fun _ hk => hk.2) (.slice D1 dl.length p1)) (fun _ _ => trivial)⟩
 have n22_ : Aside0 (Kd.R (Kd.int .u8) 5 (w6.setCell ⟨g,1,none⟩ (.slice D1 dl.length p1)) w0.heap.size (fun _ => True) (.slice D1 dl.length p1) (dl)):=⟨Kd.R_mono (Kd.R_far (p:=⟨g,1,none⟩) (Kd.R_types O_dl.out BS.out (ne_of rfl (by decide))) (fun _ hk => hk.2) (.slice D1 dl.length p1)) (fun _ _ => trivial)⟩
 have n23_ : Aside0 (Below w0.heap.size w0 (w6.setCell ⟨g,1,none⟩ (.slice D1 dl.length p1))):=⟨below_set (HB.out) GE.out (j:=1) (v:=.slice D1 dl.length p1)⟩
 clear BS B4 BD BE O_t O_c O_dl HB
 have BS:=n16_
 have B4:=n17_
 have BD:=n18_
 have BE:=n19_
 have O_t:=n20_
 have O_c:=n21_
 have O_dl:=n22_
 have HB:=n23_
 clear n16_ n17_ n18_ n19_ n20_ n21_ n22_ n23_
 generalize (w6.setCell ⟨g,1,none⟩ (.slice D1 dl.length p1)) = w7 at BS B4 BD BE O_t O_c O_dl HB ⊢
 obtain ⟨hx_g_0,hf_g_0,hx_g_1,hf_g_1,hx_g_2,hf_g_2,hx_g_3,hf_g_3,hx_g_4,hf_g_4,hx_g_5,hf_g_5,hx_g_6,hf_g_6⟩:=cells7 BS.out
 obtain ⟨hx_ge_0,hf_ge_0⟩:=cells1 BE.out
 go_upto_region 1 with fail
 clear hx_g_0 hf_g_0 hx_g_1 hf_g_1 hx_g_2 hf_g_2 hx_g_3 hf_g_3 hx_g_4 hf_g_4 hx_g_5 hf_g_5 hx_g_6 hf_g_6 hx_ge_0 hf_ge_0
 have n24_:=Aside0.mk (below_drew1 HB.out)
 have n25_:=Aside0.mk (blk_drew BS.out)
 have n26_:=Aside0.mk (blk_drew B4.out)
 have n27_:=Aside0.mk (blk_drew BD.out)
 have n28_:=Aside0.mk (blk_drew BE.out)
 have n29_:=Aside0.mk (Kd.R_drew O_t.out)
 have n30_:=Aside0.mk (Kd.R_drew O_c.out)
 have n31_:=Aside0.mk (Kd.R_drew O_dl.out)
 clear HB BS B4 BD BE O_t O_c O_dl
 have HB:=n24_
 have BS:=n25_
 have B4:=n26_
 have BD:=n27_
 have BE:=n28_
 have O_t:=n29_
 have O_c:=n30_
 have O_dl:=n31_
 clear n24_ n25_ n26_ n27_ n28_ n29_ n30_ n31_
 (try simp only [Act.put,List.setIfInBounds_toArray,List.set_cons_zero,List.set_cons_succ])
 refine start_ (n:=15) (S:=fun w' => w'.cell? ⟨g,0,none⟩ = some (.int .u64 b) ∧ w'.cell? ⟨g,1,none⟩ = some (.slice D1 dl.length p1) ∧ w'.cell? ⟨g,2,none⟩ = some (.slice B2 t.length q2) ∧ w'.cell? ⟨g,3,none⟩ = some (.slice B3 c.length q3) ∧ w'.cell? ⟨g,4,none⟩ = some (.bool fin) ∧ w'.cell? ⟨g,5,none⟩ = some (.bool ft) ∧ w'.cell? ⟨g,6,none⟩ = some (.bool fc) ∧ w'.cell? ⟨ge,0,none⟩ = some (.int .u64 e)) (ds:=[14]) #[false,false,false,false,false,false,false,false,false,false,false,false,false,false,false] (by kernel_rfl) rfl rfl ⟨(blk_cell BS.out 0).trans rfl,(blk_cell BS.out 1).trans rfl,(blk_cell BS.out 2).trans rfl,(blk_cell BS.out 3).trans rfl,(blk_cell BS.out 4).trans rfl,(blk_cell BS.out 5).trans rfl,(blk_cell BS.out 6).trans rfl,(blk_cell BE.out 0).trans rfl⟩ (fun hHeld => ?_)
 generalize w7.drew = w8 at HB BS B4 BD BE O_t O_c O_dl hHeld ⊢
 refine pure_ (i:=0) (N:=some 13) (v:=?_) (a':=?_) #[true,false,false,false,false,false,false,false,false,false,false,false,false,false,false] rfl rfl (by kernel_rfl) (fun _ _ _ h => h) (Or.inl ⟨by rfl,?_⟩) ?_ ?_
 rotate_left
 ·intro w'
  go_simp
  with_reducible rfl
 rotate_left
 ·simp only [Act.put,List.setIfInBounds_toArray,List.set_cons_zero,List.set_cons_succ,i64_w,i32_w]
  rfl
 refine pure_ (i:=1) (N:=some 14) (v:=?_) (a':=?_) #[true,true,false,false,false,false,false,false,false,false,false,false,false,false,false] rfl rfl (by kernel_rfl) (fun _ _ _ h => h) (Or.inl ⟨by rfl,?_⟩) ?_ ?_
 rotate_left
 ·intro w'
  go_simp
  with_reducible rfl
 rotate_left
 ·simp only [Act.put,List.setIfInBounds_toArray,List.set_cons_zero,List.set_cons_succ,i64_w,i32_w]
  rfl
 refine pure_ (i:=2) (N:=some 15) (v:=?_) (a':=?_) #[true,true,true,false,false,false,false,false,false,false,false,false,false,false,false] rfl rfl (by kernel_rfl) (fun _ _ _ h => h) (Or.inl ⟨by rfl,?_⟩) ?_ ?_
 rotate_left
 ·intro w'
  go_simp
  with_reducible rfl
 rotate_left
 ·simp only [Act.put,List.setIfInBounds_toArray,List.set_cons_zero,List.set_cons_succ,i64_w,i32_w]
  rfl
 refine pure_ (i:=3) (N:=some 16) (v:=?_) (a':=?_) #[true,true,true,true,false,false,false,false,false,false,false,false,false,false,false] rfl rfl (by kernel_rfl) (fun _ _ _ h => h) (Or.inl ⟨by rfl,?_⟩) ?_ ?_
 rotate_left
 ·intro w'
  go_simp
  with_reducible rfl
 rotate_left
 ·simp only [Act.put,List.setIfInBounds_toArray,List.set_cons_zero,List.set_cons_succ,i64_w,i32_w]
  rfl
 refine pure_ (i:=6) (N:=some 19) (v:=?_) (a':=?_) #[true,true,true,true,false,false,true,false,false,false,false,false,false,false,false] rfl rfl (by kernel_rfl) (fun _ _ _ h => h) (Or.inl ⟨by rfl,?_⟩) ?_ ?_
 rotate_left
 ·intro w'
  go_simp
  with_reducible rfl
 rotate_left
 ·simp only [Act.put,List.setIfInBounds_toArray,List.set_cons_zero,List.set_cons_succ,i64_w,i32_w]
  rfl
 refine pure_ (i:=7) (N:=some 20) (v:=?_) (a':=?_) #[true,true,true,true,false,false,true,true,false,false,false,false,false,false,false] rfl rfl (by kernel_rfl) (fun _ _ _ h => h) (Or.inl ⟨by rfl,?_⟩) ?_ ?_
 rotate_left
 ·intro w'
  go_simp
  with_reducible rfl
 rotate_left
 ·simp only [Act.put,List.setIfInBounds_toArray,List.set_cons_zero,List.set_cons_succ,i64_w,i32_w]
  rfl
 refine take_ (i:=4) (N:=some 17) (v:=?_) (a':=?_) #[true,true,true,true,true,false,true,true,false,false,false,false,false,false,false] rfl rfl (by kernel_rfl) (fun _ _ _ h => h) (Or.inl ⟨by rfl,?_⟩) hHeld ?_ ?_
 rotate_left
 ·rintro w' ⟨s0,s1,s2,s3,s4,s5,s6,s7⟩
  go_simp
  with_reducible rfl
 rotate_left
 ·simp only [Act.put,List.setIfInBounds_toArray,List.set_cons_zero,List.set_cons_succ,i64_w,i32_w]
  rfl
 refine take_ (i:=5) (N:=some 18) (v:=?_) (a':=?_) #[true,true,true,true,true,true,true,true,false,false,false,false,false,false,false] rfl rfl (by kernel_rfl) (fun _ _ _ h => h) (Or.inl ⟨by rfl,?_⟩) hHeld ?_ ?_
 rotate_left
 ·rintro w' ⟨s0,s1,s2,s3,s4,s5,s6,s7⟩
  go_simp
  with_reducible rfl
 rotate_left
 ·simp only [Act.put,List.setIfInBounds_toArray,List.set_cons_zero,List.set_cons_succ,i64_w,i32_w]
  rfl
 refine take_ (i:=8) (N:=some 21) (v:=?_) (a':=?_) #[true,true,true,true,true,true,true,true,true,false,false,false,false,false,false] rfl rfl (by kernel_rfl) (fun _ _ _ h => h) (Or.inl ⟨by rfl,?_⟩) hHeld ?_ ?_
 rotate_left
 ·rintro w' ⟨s0,s1,s2,s3,s4,s5,s6,s7⟩
  go_simp
  with_reducible rfl
 rotate_left
 ·simp only [Act.put,List.setIfInBounds_toArray,List.set_cons_zero,List.set_cons_succ,i64_w,i32_w]
  rfl
 refine one_ (i:=9) (N:=some 22) #[true,true,true,true,true,true,true,true,true,true,false,false,false,false,false] rfl rfl (by kernel_rfl) (by decide) (fun K hK => ?_)
 refine goes_ Try.func15 (by kernel_rfl) rfl #[.agg #[.int .u64 b,.slice D1 dl.length p1,.slice B2 t.length q2,.slice B3 c.length q3,.bool fin,.bool ft,.bool fc]] (by rfl) rfl rfl (by (try simp only [List.map_toArray,List.map_cons,List.map_nil]);first | done | rfl) ?_
 refine (supply_End.calls b _ _ dl _ _ t _ _ c fin ft fc e2 _ (Kd.R_reads' O_dl.out).2.2 (Kd.R_reads' O_dl.out).2.1 (Kd.R_reads' O_t.out).2.2 (Kd.R_reads' O_t.out).2.1 (Kd.R_reads' O_c.out).2.2 (Kd.R_reads' O_c.out).2.1 (by unfold supply_End.f;rw [HE.out])).mono ?_
 rintro e_ w9 ⟨rfl,hb⟩
 refine ⟨_,rfl,?_⟩
 have n32_:=Aside0.mk (below_step HB.out hb)
 have n33_:=Aside0.mk (blk_below BS.out hb)
 have n34_:=Aside0.mk (blk_below B4.out hb)
 have n35_:=Aside0.mk (blk_below BD.out hb)
 have n36_:=Aside0.mk (blk_below BE.out hb)
 have n37_:=Aside0.mk (Kd.R_below O_t.out hb)
 have n38_:=Aside0.mk (Kd.R_below O_c.out hb)
 have n39_:=Aside0.mk (Kd.R_below O_dl.out hb)
 clear HB BS B4 BD BE O_t O_c O_dl
 have HB:=n32_
 have BS:=n33_
 have B4:=n34_
 have BD:=n35_
 have BE:=n36_
 have O_t:=n37_
 have O_c:=n38_
 have O_dl:=n39_
 clear n32_ n33_ n34_ n35_ n36_ n37_ n38_ n39_
 clear hb
 refine hK.out _ _ ⟨(blk_cell BS.out 0).trans rfl,(blk_cell BS.out 1).trans rfl,(blk_cell BS.out 2).trans rfl,(blk_cell BS.out 3).trans rfl,(blk_cell BS.out 4).trans rfl,(blk_cell BS.out 5).trans rfl,(blk_cell BS.out 6).trans rfl,(blk_cell BE.out 0).trans rfl⟩ (fun hHeld => ?_)
 clear hK K
 refine norm_ (a':=?_) ?_ ?_
 rotate_left
 ·show Act.put _ (some 22) _ = _
  simp only [Act.put,List.setIfInBounds_toArray,List.set_cons_zero,List.set_cons_succ,i64_w,i32_w]
  rfl
 refine pure_ (i:=10) (N:=some 23) (v:=?_) (a':=?_) #[true,true,true,true,true,true,true,true,true,true,true,false,false,false,false] rfl rfl (by kernel_rfl) (fun _ _ _ h => h) (Or.inl ⟨by rfl,?_⟩) ?_ ?_
 rotate_left
 ·intro w'
  go_simp
  with_reducible rfl
 rotate_left
 ·simp only [Act.put,List.setIfInBounds_toArray,List.set_cons_zero,List.set_cons_succ,i64_w,i32_w]
  rfl
 refine one_ (i:=11) (N:=some 24) #[true,true,true,true,true,true,true,true,true,true,true,true,false,false,false] rfl rfl (by kernel_rfl) (by decide) (fun K hK => ?_)
 refine goes_ Try.func21 (by kernel_rfl) rfl #[.slice B2 t.length q2,.agg #[.int .u64 e,.int .u64 e2]] (by rfl) rfl rfl (by (try simp only [List.map_toArray,List.map_cons,List.map_nil]);first | done | rfl) ?_
 refine (span_Add.calls k B2 q2 t e e2 t2 _ (Kd.R_reads' O_t.out).2.2 (Kd.R_reads' O_t.out).2.1 HT.out).mono ?_
 rintro e_ w10 ⟨u_,rfl,ho,hb⟩
 refine ⟨_,rfl,?_⟩
 have O_t2:=Aside0.mk (Kd.R_lower ho HB.out.size)
 clear ho
 have n40_:=Aside0.mk (below_step HB.out hb)
 have n41_:=Aside0.mk (blk_below BS.out hb)
 have n42_:=Aside0.mk (blk_below B4.out hb)
 have n43_:=Aside0.mk (blk_below BD.out hb)
 have n44_:=Aside0.mk (blk_below BE.out hb)
 have n45_:=Aside0.mk (Kd.R_below O_t.out hb)
 have n46_:=Aside0.mk (Kd.R_below O_c.out hb)
 have n47_:=Aside0.mk (Kd.R_below O_dl.out hb)
 clear HB BS B4 BD BE O_t O_c O_dl
 have HB:=n40_
 have BS:=n41_
 have B4:=n42_
 have BD:=n43_
 have BE:=n44_
 have O_t:=n45_
 have O_c:=n46_
 have O_dl:=n47_
 clear n40_ n41_ n42_ n43_ n44_ n45_ n46_ n47_
 clear hb
 obtain ⟨D2,p2,eo⟩:=Kd.R_slice O_t2.out
 subst eo
 obtain ⟨hx_g_0,hf_g_0,hx_g_1,hf_g_1,hx_g_2,hf_g_2,hx_g_3,hf_g_3,hx_g_4,hf_g_4,hx_g_5,hf_g_5,hx_g_6,hf_g_6⟩:=cells7 BS.out
 refine hK.out _ _ ⟨(blk_cell BS.out 0).trans rfl,(blk_cell BS.out 1).trans rfl,(blk_cell BS.out 2).trans rfl,(blk_cell BS.out 3).trans rfl,(blk_cell BS.out 4).trans rfl,(blk_cell BS.out 5).trans rfl,(blk_cell BS.out 6).trans rfl,(blk_cell BE.out 0).trans rfl⟩ (fun hHeld => ?_)
 clear hK K
 refine norm_ (a':=?_) ?_ ?_
 rotate_left
 ·show Act.put _ (some 24) _ = _
  simp only [Act.put,List.setIfInBounds_toArray,List.set_cons_zero,List.set_cons_succ,i64_w,i32_w]
  rfl
 refine pure_ (i:=12) (N:=some 25) (v:=?_) (a':=?_) #[true,true,true,true,true,true,true,true,true,true,true,true,true,false,false] rfl rfl (by kernel_rfl) (fun _ _ _ h => h) (Or.inl ⟨by rfl,?_⟩) ?_ ?_
 rotate_left
 ·intro w'
  go_simp
  with_reducible rfl
 rotate_left
 ·simp only [Act.put,List.setIfInBounds_toArray,List.set_cons_zero,List.set_cons_succ,i64_w,i32_w]
  rfl
 refine pure_ (i:=13) (N:=some 26) (v:=?_) (a':=?_) #[true,true,true,true,true,true,true,true,true,true,true,true,true,true,false] rfl rfl (by kernel_rfl) (fun _ _ _ h => h) (Or.inl ⟨by rfl,?_⟩) ?_ ?_
 rotate_left
 ·intro w'
  go_simp
  with_reducible rfl
 rotate_left
 ·simp only [Act.put,List.setIfInBounds_toArray,List.set_cons_zero,List.set_cons_succ,i64_w,i32_w]
  rfl
 refine last_ (i:=14) (N:=none) #[true,true,true,true,true,true,true,true,true,true,true,true,true,true,true] rfl rfl (by kernel_rfl) (by decide) (fun K hK => ?_)
 refine skip_ (w1:=?_) (by rfl) rfl ?_ ?_
 rotate_left
 ·go_simp
  rfl
 refine hK.out _ _ ?_
 clear hK K
 refine done_ (by kernel_rfl) ?_
 clear O_t
 clear hx_g_0 hf_g_0 hx_g_1 hf_g_1 hx_g_2 hf_g_2 hx_g_3 hf_g_3 hx_g_4 hf_g_4 hx_g_5 hf_g_5 hx_g_6 hf_g_6
 have n48_ : Aside0 ((w10.setCell ⟨g,2,none⟩ (.slice D2 t2.length p2)).heap[g]? = some (.cells #[.int .u64 b,.slice D1 dl.length p1,.slice D2 t2.length p2,.slice B3 c.length q3,.bool fin,.bool ft,.bool fc] 27 (0,0))):=⟨blk_put (BS.out) 2 (.slice D2 t2.length p2) (cs':=#[.int .u64 b,.slice D1 dl.length p1,.slice D2 t2.length p2,.slice B3 c.length q3,.bool fin,.bool ft,.bool fc]) rfl⟩
 have n49_ : Aside0 ((w10.setCell ⟨g,2,none⟩ (.slice D2 t2.length p2)).heap[g4]? = some (.cells cs4 27 (0,0))):=⟨blk_far (p:=⟨g,2,none⟩) (B4.out) hne.symm (.slice D2 t2.length p2)⟩
 have n50_ : Aside0 ((w10.setCell ⟨g,2,none⟩ (.slice D2 t2.length p2)).heap[gd]? = some (.cells #[.slice Ad l.length cd] 22 (0,0))):=⟨blk_far (p:=⟨g,2,none⟩) (BD.out) NE_gd (.slice D2 t2.length p2)⟩
 have n51_ : Aside0 ((w10.setCell ⟨g,2,none⟩ (.slice D2 t2.length p2)).heap[ge]? = some (.cells #[.int .u64 e] 24 (0,0))):=⟨blk_far (p:=⟨g,2,none⟩) (BE.out) NE_ge (.slice D2 t2.length p2)⟩
 have n52_ : Aside0 (Kd.R k37 37 (w10.setCell ⟨g,2,none⟩ (.slice D2 t2.length p2)) w0.heap.size (fun _ => True) (.slice B3 c.length q3) (c)):=⟨Kd.R_mono (Kd.R_far (p:=⟨g,2,none⟩) (Kd.R_types O_c.out BS.out (ne_of rfl (by decide))) (fun _ hk => hk.2) (.slice D2 t2.length p2)) (fun _ _ => trivial)⟩
 have n53_ : Aside0 (Kd.R (Kd.int .u8) 5 (w10.setCell ⟨g,2,none⟩ (.slice D2 t2.length p2)) w0.heap.size (fun _ => True) (.slice D1 dl.length p1) (dl)):=⟨Kd.R_mono (Kd.R_far (p:=⟨g,2,none⟩) (Kd.R_types O_dl.out BS.out (ne_of rfl (by decide))) (fun _ hk => hk.2) (.slice D2 t2.length p2)) (fun _ _ => trivial)⟩
 have n54_ : Aside0 (Kd.R k37 37 (w10.setCell ⟨g,2,none⟩ (.slice D2 t2.length p2)) w0.heap.size (fun _ => True) (.slice D2 t2.length p2) (t2)):=⟨Kd.R_mono (Kd.R_far (p:=⟨g,2,none⟩) (Kd.R_types O_t2.out BS.out (ne_of rfl (by decide))) (fun _ hk => hk.2) (.slice D2 t2.length p2)) (fun _ _ => trivial)⟩
 have n55_ : Aside0 (Below w0.heap.size w0 (w10.setCell ⟨g,2,none⟩ (.slice D2 t2.length p2))):=⟨below_set (HB.out) GE.out (j:=2) (v:=.slice D2 t2.length p2)⟩
 clear BS B4 BD BE O_c O_dl O_t2 HB
 have BS:=n48_
 have B4:=n49_
 have BD:=n50_
 have BE:=n51_
 have O_c:=n52_
 have O_dl:=n53_
 have O_t2:=n54_
 have HB:=n55_
 clear n48_ n49_ n50_ n51_ n52_ n53_ n54_ n55_
 generalize (w10.setCell ⟨g,2,none⟩ (.slice D2 t2.length p2)) = w11 at BS B4 BD BE O_c O_dl O_t2 HB ⊢
 first | go_end0 | ((try simp only [Exit.inBlock,Exit.then]);refine bodyPost_ret (results_none rfl _ _ _) rfl ?_)
 exact ⟨rfl,_,_,BS.out,B4.out,O_dl.out,O_t2.out,O_c.out,HB.out⟩

end Go.Proofs.Ytadhkamocbhbmaa.P
