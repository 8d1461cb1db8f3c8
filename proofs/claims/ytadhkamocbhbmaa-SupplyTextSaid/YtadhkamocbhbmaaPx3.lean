-- Printed for this claim by xprint.py of this session: contracts of this session's own stand in for what the print does not take
import Derived.Test.YtadhkamocbhbmaaPx0
import Derived.Test.YtadhkamocbhbmaaPx2
namespace Go.Proofs.Ytadhkamocbhbmaa.P
open Go.RowKit Go.Proofs.YtadhkamocbhbmaaW.PrintWords Go.Proofs.YtadhkamocbhbmaaW.PrintLast Go.Proofs.YtadhkamocbhbmaaW.PrintMore
attribute [local go_sem] max2_int min2_int max_two min_two max_three min_three max_four min_four   -- for this text's walks alone
set_option linter.unusedVariables false
set_option linter.unusedSimpArgs false

/-! ### supply_changed: function 19 -/
theorem clone_ok_by {l : List Int} (h : l.length < 1000000000) : bytes_Clone.f l = some l:=by
 unfold bytes_Clone.f
 rw [Option.bind_some,if_pos (by simp;omega),List.nil_append]
theorem clone_ok_sp {l : List S37} (h : l.length < 1000000000) : api_Span.f l = some l:=by
 unfold api_Span.f
 rw [Option.bind_some,if_pos (by simp;omega),List.nil_append]
/-- What is handed back: a state,of which F tells. -/
def SPost (F : World → Int → Value → Value → Value → Bool → Bool → Bool → Prop) (w : World) (e : Ending) (w' : World) : Prop:=∃ (x0 : Int) (B1 : Option Addr) (p1 q1 : Nat) (B2 : Option Addr) (p2 q2 : Nat) (B3 : Option Addr) (p3 q3 : Nat) (y4 y5 y6 : Bool), e = .returned (.agg #[.int .u64 x0,.slice B1 p1 q1,.slice B2 p2 q2,.slice B3 p3 q3,.bool y4,.bool y5,.bool y6]) ∧ F w' x0 (.slice B1 p1 q1) (.slice B2 p2 q2) (.slice B3 p3 q3) y4 y5 y6 ∧ Below w.heap.size w w'
set_option maxHeartbeats 8000000 in
set_option maxRecDepth 100000 in
theorem supply_changed.hand (F : World → Int → Value → Value → Value → Bool → Bool → Bool → Prop) (b : Int) (A1 : Option Addr) (c1 : Nat) (d : List Int) (A2 : Option Addr) (c2 : Nat) (t : List S37) (A3 : Option Addr) (c3 : Nat) (c : List S37) (fin ft fc : Bool) (fid : FuncId) (fn : Func) (cap : Array Value) (w : World)
  (hst : ∀ (W : World) (g : Nat) (cs : Array Value) (a0 a1 a2 a3 a4 a5 a6 : Value) (x0 : Int) (y1 y2 y3 : Value) (y4 y5 y6 : Bool),W.heap[g]? = some (.cells cs 27 (0,0)) → F W x0 y1 y2 y3 y4 y5 y6 → F (set7 W g a0 a1 a2 a3 a4 a5 a6) x0 y1 y2 y3 y4 y5 y6) (hf : Try.prog.funcs[fid]? = some fn) (hname : (fn.name == "runtime.NumGoroutine") = false) (hbd : fn.body.isSome = true)
  (hr1 : Kd.C (Kd.int .u8) w A1 d.length d) (hc1 : d.length ≤ c1) (hr2 : Kd.C k37 w A2 t.length t) (hc2 : t.length ≤ c2) (hr3 : Kd.C k37 w A3 c.length c) (hc3 : c.length ≤ c3) (n1 : d.length < 1000000000) (n2 : t.length < 1000000000) (n3 : c.length < 1000000000)
  (hdo : ∀ (g g4 : Nat) (cs4 : Array Value) (v1 v2 v3 : Value) (W : World),W.heap[g]? = some (.cells #[.int .u64 b,v1,v2,v3,.bool fin,.bool ft,.bool fc] 27 (0,0)) → W.heap[g4]? = some (.cells cs4 27 (0,0)) → g ≠ g4 → w.heap.size ≤ g → Kd.R (Kd.int .u8) 5 W w.heap.size (fun _ => True) v1 d → Kd.R k37 37 W w.heap.size (fun _ => True) v2 t → Kd.R k37 37 W w.heap.size (fun _ => True) v3 c → Below w.heap.size w W → Calls Try.prog fid (#[.pointer (some ⟨g,0,none⟩)] ++ cap) W fun e W2 => e = .returned (.tuple #[]) ∧ ∃ (x0 : Int) (B1 : Option Addr) (p1 q1 : Nat) (B2 : Option Addr) (p2 q2 : Nat) (B3 : Option Addr) (p3 q3 : Nat) (y4 y5 y6 : Bool), W2.heap[g]? = some (.cells #[.int .u64 x0,.slice B1 p1 q1,.slice B2 p2 q2,.slice B3 p3 q3,.bool y4,.bool y5,.bool y6] 27 (0,0)) ∧ W2.heap[g4]? = some (.cells cs4 27 (0,0)) ∧ F W2 x0 (.slice B1 p1 q1) (.slice B2 p2 q2) (.slice B3 p3 q3) y4 y5 y6 ∧ Below w.heap.size w W2) :
  Calls Try.prog 19 #[.agg #[.int .u64 b,.slice A1 d.length c1,.slice A2 t.length c2,.slice A3 c.length c3,.bool fin,.bool ft,.bool fc],.func (.func fid) #[] cap] w fun e w' => SPost F w e w':=by
 have HR1:=Aside0.mk hr1
 have HR2:=Aside0.mk hr2
 have HR3:=Aside0.mk hr3
 have HC1:=Aside0.mk hc1
 have HC2:=Aside0.mk hc2
 have HC3:=Aside0.mk hc3
 have HL1:=Aside0.mk n1
 have HL2:=Aside0.mk n2
 have HL3:=Aside0.mk n3
 have HST:=Aside0.mk hst
 have HDO:=Aside0.mk hdo
 have HB:=Aside0.mk (Below.refl w.heap.size w)
 clear hr1 hr2 hr3 hc1 hc2 hc3 n1 n2 n3 hst hdo
 go_enter Try.func19,Try.ntmps19
 go_upto_region 1 with (first
  | ((with_reducible refine gate_dst (N:=2) rfl ?_);refine box_event ?hg (N:=2) ?hd (cs:=#[.int .u64 b,.slice A1 d.length c1,.slice A2 t.length c2,.slice A3 c.length c3,.bool fin,.bool ft,.bool fc]) (t:=27) ?hr ?_;(case hd => rfl);(case hg => rfl);(case hr => first | (go_simp;done) | (go_simp;rfl));intro g2 hg w2 hbox hb;have GE_g2:=Aside0.mk (show w.heap.size ≤ g2 by rw [hg];exact HB.out.size);have n1_:=Aside0.mk (below_step HB.out hb);clear HB;have HB:=n1_;clear n1_;have BK_g2:=Aside0.mk hbox;clear hbox hb hg)
  | ((with_reducible refine gate_dst (N:=4) rfl ?_);refine box_event ?hg (N:=4) ?hd (cs:=#[.int .u64 0,.slice none 0 0,.slice none 0 0,.slice none 0 0,.bool false,.bool false,.bool false]) (t:=27) ?hr ?_;(case hd => rfl);(case hg => rfl);(case hr => first | (go_simp;done) | (go_simp;rfl));intro g4 hg w4 hbox hb;have GE_g4:=Aside0.mk (show w.heap.size ≤ g4 by rw [hg];exact HB.out.size);have NB_g2_g4 : g2 ≠ g4:=(by rw [hg];exact Nat.ne_of_lt (blk_lt BK_g2.out));have NB_g4_g2:=NB_g2_g4.symm;have n2_:=Aside0.mk (below_step HB.out hb);have n3_:=Aside0.mk (blk_below BK_g2.out hb);clear HB BK_g2;have HB:=n2_;have BK_g2:=n3_;clear n2_ n3_;have BK_g4:=Aside0.mk hbox;clear hbox hb hg;obtain ⟨hx_g2_0,hf_g2_0,hx_g2_1,hf_g2_1,hx_g2_2,hf_g2_2,hx_g2_3,hf_g2_3,hx_g2_4,hf_g2_4,hx_g2_5,hf_g2_5,hx_g2_6,hf_g2_6⟩:=cells7 BK_g2.out))
 clear hx_g2_0 hf_g2_0 hx_g2_1 hf_g2_1 hx_g2_2 hf_g2_2 hx_g2_3 hf_g2_3 hx_g2_4 hf_g2_4 hx_g2_5 hf_g2_5 hx_g2_6 hf_g2_6
 have n4_:=Aside0.mk (below_drew1 HB.out)
 have n5_:=Aside0.mk (blk_drew BK_g2.out)
 have n6_:=Aside0.mk (blk_drew BK_g4.out)
 clear HB BK_g2 BK_g4
 have HB:=n4_
 have BK_g2:=n5_
 have BK_g4:=n6_
 clear n4_ n5_ n6_
 (try simp only [Act.put,List.setIfInBounds_toArray,List.set_cons_zero,List.set_cons_succ])
 refine start_ (n:=15) (S:=fun w' => w'.cell? ⟨g2,0,none⟩ = some (.int .u64 b) ∧ w'.cell? ⟨g2,1,none⟩ = some (.slice A1 d.length c1) ∧ w'.cell? ⟨g2,2,none⟩ = some (.slice A2 t.length c2) ∧ w'.cell? ⟨g2,3,none⟩ = some (.slice A3 c.length c3) ∧ w'.cell? ⟨g2,4,none⟩ = some (.bool fin) ∧ w'.cell? ⟨g2,5,none⟩ = some (.bool ft) ∧ w'.cell? ⟨g2,6,none⟩ = some (.bool fc)) (ds:=[10,12,14]) #[false,false,false,false,false,false,false,false,false,false,false,false,false,false,false] (by kernel_rfl) rfl rfl ⟨(blk_cell BK_g2.out 0).trans rfl,(blk_cell BK_g2.out 1).trans rfl,(blk_cell BK_g2.out 2).trans rfl,(blk_cell BK_g2.out 3).trans rfl,(blk_cell BK_g2.out 4).trans rfl,(blk_cell BK_g2.out 5).trans rfl,(blk_cell BK_g2.out 6).trans rfl⟩ (fun hHeld => ?_)
 generalize w4.drew = w5 at HB BK_g2 BK_g4 hHeld ⊢
 refine pure_ (i:=0) (N:=some 5) (v:=?_) (a':=?_) #[true,false,false,false,false,false,false,false,false,false,false,false,false,false,false] rfl rfl (by kernel_rfl) (fun _ _ _ h => h) (Or.inl ⟨by rfl,?_⟩) ?_ ?_
 rotate_left
 ·intro w'
  go_simp
  with_reducible rfl
 rotate_left
 ·simp only [Act.put,List.setIfInBounds_toArray,List.set_cons_zero,List.set_cons_succ,i64_w,i32_w]
  rfl
 refine pure_ (i:=3) (N:=some 8) (v:=?_) (a':=?_) #[true,false,false,true,false,false,false,false,false,false,false,false,false,false,false] rfl rfl (by kernel_rfl) (fun _ _ _ h => h) (Or.inl ⟨by rfl,?_⟩) ?_ ?_
 rotate_left
 ·intro w'
  go_simp
  with_reducible rfl
 rotate_left
 ·simp only [Act.put,List.setIfInBounds_toArray,List.set_cons_zero,List.set_cons_succ,i64_w,i32_w]
  rfl
 refine pure_ (i:=6) (N:=some 11) (v:=?_) (a':=?_) #[true,false,false,true,false,false,true,false,false,false,false,false,false,false,false] rfl rfl (by kernel_rfl) (fun _ _ _ h => h) (Or.inl ⟨by rfl,?_⟩) ?_ ?_
 rotate_left
 ·intro w'
  go_simp
  with_reducible rfl
 rotate_left
 ·simp only [Act.put,List.setIfInBounds_toArray,List.set_cons_zero,List.set_cons_succ,i64_w,i32_w]
  rfl
 refine take_ (i:=1) (N:=some 6) (v:=?_) (a':=?_) #[true,true,false,true,false,false,true,false,false,false,false,false,false,false,false] rfl rfl (by kernel_rfl) (fun _ _ _ h => h) (Or.inl ⟨by rfl,?_⟩) hHeld ?_ ?_
 rotate_left
 ·rintro w' ⟨s0,s1,s2,s3,s4,s5,s6⟩
  go_simp
  with_reducible rfl
 rotate_left
 ·simp only [Act.put,List.setIfInBounds_toArray,List.set_cons_zero,List.set_cons_succ,i64_w,i32_w]
  rfl
 refine take_ (i:=4) (N:=some 9) (v:=?_) (a':=?_) #[true,true,false,true,true,false,true,false,false,false,false,false,false,false,false] rfl rfl (by kernel_rfl) (fun _ _ _ h => h) (Or.inl ⟨by rfl,?_⟩) hHeld ?_ ?_
 rotate_left
 ·rintro w' ⟨s0,s1,s2,s3,s4,s5,s6⟩
  go_simp
  with_reducible rfl
 rotate_left
 ·simp only [Act.put,List.setIfInBounds_toArray,List.set_cons_zero,List.set_cons_succ,i64_w,i32_w]
  rfl
 refine take_ (i:=7) (N:=some 12) (v:=?_) (a':=?_) #[true,true,false,true,true,false,true,true,false,false,false,false,false,false,false] rfl rfl (by kernel_rfl) (fun _ _ _ h => h) (Or.inl ⟨by rfl,?_⟩) hHeld ?_ ?_
 rotate_left
 ·rintro w' ⟨s0,s1,s2,s3,s4,s5,s6⟩
  go_simp
  with_reducible rfl
 rotate_left
 ·simp only [Act.put,List.setIfInBounds_toArray,List.set_cons_zero,List.set_cons_succ,i64_w,i32_w]
  rfl
 refine one_ (i:=2) (N:=some 7) #[true,true,true,true,true,false,true,true,false,false,false,false,false,false,false] rfl rfl (by kernel_rfl) (by decide) (fun K hK => ?_)
 refine goes_ Try.func22 (by kernel_rfl) rfl #[.slice A1 d.length c1] (by rfl) rfl rfl (by (try simp only [List.map_toArray,List.map_cons,List.map_nil]);first | done | rfl) ?_
 refine (bytes_Clone.calls A1 c1 d _ _ (Kd.C_below HR1.out HB.out) HC1.out (clone_ok_by HL1.out)).mono ?_
 rintro e_ w11 ⟨u_,rfl,ho,hb⟩
 refine ⟨_,rfl,?_⟩
 have O_d:=Aside0.mk (Kd.R_lower ho HB.out.size)
 clear ho
 have n7_:=Aside0.mk (below_step HB.out hb)
 have n8_:=Aside0.mk (blk_below BK_g2.out hb)
 have n9_:=Aside0.mk (blk_below BK_g4.out hb)
 clear HB BK_g2 BK_g4
 have HB:=n7_
 have BK_g2:=n8_
 have BK_g4:=n9_
 clear n7_ n8_ n9_
 clear hb
 obtain ⟨B1_,d1_,eo⟩:=Kd.R_slice O_d.out
 subst eo
 refine hK.out _ _ ⟨(blk_cell BK_g2.out 0).trans rfl,(blk_cell BK_g2.out 1).trans rfl,(blk_cell BK_g2.out 2).trans rfl,(blk_cell BK_g2.out 3).trans rfl,(blk_cell BK_g2.out 4).trans rfl,(blk_cell BK_g2.out 5).trans rfl,(blk_cell BK_g2.out 6).trans rfl⟩ (fun hHeld => ?_)
 clear hK K
 refine norm_ (a':=?_) ?_ ?_
 rotate_left
 ·show Act.put _ (some 7) _ = _
  simp only [Act.put,List.setIfInBounds_toArray,List.set_cons_zero,List.set_cons_succ,i64_w,i32_w]
  rfl
 refine one_ (i:=5) (N:=some 10) #[true,true,true,true,true,true,true,true,false,false,false,false,false,false,false] rfl rfl (by kernel_rfl) (by decide) (fun K hK => ?_)
 refine goes_ Try.func31 (by kernel_rfl) rfl #[.slice A2 t.length c2] (by rfl) rfl rfl (by (try simp only [List.map_toArray,List.map_cons,List.map_nil]);first | done | rfl) ?_
 refine (api_Span.calls A2 c2 t _ _ (Kd.C_below HR2.out HB.out) HC2.out (clone_ok_sp HL2.out)).mono ?_
 rintro e_ w12 ⟨u_,rfl,ho,hb⟩
 refine ⟨_,rfl,?_⟩
 have O_t:=Aside0.mk (Kd.R_lower ho HB.out.size)
 clear ho
 have n10_:=Aside0.mk (below_step HB.out hb)
 have n11_:=Aside0.mk (blk_below BK_g2.out hb)
 have n12_:=Aside0.mk (blk_below BK_g4.out hb)
 have n13_:=Aside0.mk (Kd.R_below O_d.out hb)
 clear HB BK_g2 BK_g4 O_d
 have HB:=n10_
 have BK_g2:=n11_
 have BK_g4:=n12_
 have O_d:=n13_
 clear n10_ n11_ n12_ n13_
 clear hb
 obtain ⟨B2_,d2_,eo⟩:=Kd.R_slice O_t.out
 subst eo
 refine hK.out _ _ ⟨(blk_cell BK_g2.out 0).trans rfl,(blk_cell BK_g2.out 1).trans rfl,(blk_cell BK_g2.out 2).trans rfl,(blk_cell BK_g2.out 3).trans rfl,(blk_cell BK_g2.out 4).trans rfl,(blk_cell BK_g2.out 5).trans rfl,(blk_cell BK_g2.out 6).trans rfl⟩ (fun hHeld => ?_)
 clear hK K
 refine norm_ (a':=?_) ?_ ?_
 rotate_left
 ·show Act.put _ (some 10) _ = _
  simp only [Act.put,List.setIfInBounds_toArray,List.set_cons_zero,List.set_cons_succ,i64_w,i32_w]
  rfl
 refine one_ (i:=8) (N:=some 13) #[true,true,true,true,true,true,true,true,true,false,false,false,false,false,false] rfl rfl (by kernel_rfl) (by decide) (fun K hK => ?_)
 refine goes_ Try.func31 (by kernel_rfl) rfl #[.slice A3 c.length c3] (by rfl) rfl rfl (by (try simp only [List.map_toArray,List.map_cons,List.map_nil]);first | done | rfl) ?_
 refine (api_Span.calls A3 c3 c _ _ (Kd.C_below HR3.out HB.out) HC3.out (clone_ok_sp HL3.out)).mono ?_
 rintro e_ w13 ⟨u_,rfl,ho,hb⟩
 refine ⟨_,rfl,?_⟩
 have O_c:=Aside0.mk (Kd.R_lower ho HB.out.size)
 clear ho
 have n14_:=Aside0.mk (below_step HB.out hb)
 have n15_:=Aside0.mk (blk_below BK_g2.out hb)
 have n16_:=Aside0.mk (blk_below BK_g4.out hb)
 have n17_:=Aside0.mk (Kd.R_below O_d.out hb)
 have n18_:=Aside0.mk (Kd.R_below O_t.out hb)
 clear HB BK_g2 BK_g4 O_d O_t
 have HB:=n14_
 have BK_g2:=n15_
 have BK_g4:=n16_
 have O_d:=n17_
 have O_t:=n18_
 clear n14_ n15_ n16_ n17_ n18_
 clear hb
 obtain ⟨B3_,d3_,eo⟩:=Kd.R_slice O_c.out
 subst eo
 obtain ⟨hx_g2_0,hf_g2_0,hx_g2_1,hf_g2_1,hx_g2_2,hf_g2_2,hx_g2_3,hf_g2_3,hx_g2_4,hf_g2_4,hx_g2_5,hf_g2_5,hx_g2_6,hf_g2_6⟩:=cells7 BK_g2.out
 refine hK.out _ _ ⟨(blk_cell BK_g2.out 0).trans rfl,(blk_cell BK_g2.out 1).trans rfl,(blk_cell BK_g2.out 2).trans rfl,(blk_cell BK_g2.out 3).trans rfl,(blk_cell BK_g2.out 4).trans rfl,(blk_cell BK_g2.out 5).trans rfl,(blk_cell BK_g2.out 6).trans rfl⟩ (fun hHeld => ?_)
 clear hK K
 refine norm_ (a':=?_) ?_ ?_
 rotate_left
 ·show Act.put _ (some 13) _ = _
  simp only [Act.put,List.setIfInBounds_toArray,List.set_cons_zero,List.set_cons_succ,i64_w,i32_w]
  rfl
 refine pure_ (i:=9) (N:=some 14) (v:=?_) (a':=?_) #[true,true,true,true,true,true,true,true,true,true,false,false,false,false,false] rfl rfl (by kernel_rfl) (fun _ _ _ h => h) (Or.inl ⟨by rfl,?_⟩) ?_ ?_
 rotate_left
 ·intro w'
  go_simp
  with_reducible rfl
 rotate_left
 ·simp only [Act.put,List.setIfInBounds_toArray,List.set_cons_zero,List.set_cons_succ,i64_w,i32_w]
  rfl
 refine last_ (i:=10) (N:=none) #[true,true,true,true,true,true,true,true,true,true,true,false,false,false,false] rfl rfl (by kernel_rfl) (by decide) (fun K hK => ?_)
 refine skip_ (w1:=?_) (by rfl) rfl ?_ ?_
 rotate_left
 ·go_simp
  rfl
 refine hK.out _ _ ?_
 clear hK K
 refine pure_ (i:=11) (N:=some 15) (v:=?_) (a':=?_) #[true,true,true,true,true,true,true,true,true,true,true,true,false,false,false] rfl rfl (by kernel_rfl) (fun _ _ _ h => h) (Or.inl ⟨by rfl,?_⟩) ?_ ?_
 rotate_left
 ·intro w'
  go_simp
  with_reducible rfl
 rotate_left
 ·simp only [Act.put,List.setIfInBounds_toArray,List.set_cons_zero,List.set_cons_succ,i64_w,i32_w]
  rfl
 refine last_ (i:=12) (N:=none) #[true,true,true,true,true,true,true,true,true,true,true,true,true,false,false] rfl rfl (by kernel_rfl) (by decide) (fun K hK => ?_)
 refine skip_ (w1:=?_) (by rfl) rfl ?_ ?_
 rotate_left
 ·go_simp
  rfl
 refine hK.out _ _ ?_
 clear hK K
 refine pure_ (i:=13) (N:=some 16) (v:=?_) (a':=?_) #[true,true,true,true,true,true,true,true,true,true,true,true,true,true,false] rfl rfl (by kernel_rfl) (fun _ _ _ h => h) (Or.inl ⟨by rfl,?_⟩) ?_ ?_
 rotate_left
 ·intro w'
  go_simp
  with_reducible rfl
 rotate_left
 ·simp only [Act.put,List.setIfInBounds_toArray,List.set_cons_zero,List.set_cons_succ,i64_w,i32_w]
  rfl
 refine last_ (i:=14) (N:=none) #[true,true,true,true,true,true,true,true,true,true,true,true,true,true,true] rfl rfl (by kernel_rfl) (by decide) (fun K hK => ?_)
 refine skip_ (w1:=?_) (by rfl) rfl ?_ ?_
 rotate_left
 ·go_simp
  rfl
 refine hK.out _ _ ?_
 clear hK K
 refine done_ (by kernel_rfl) ?_
 clear hx_g2_0 hf_g2_0 hx_g2_1 hf_g2_1 hx_g2_2 hf_g2_2 hx_g2_3 hf_g2_3 hx_g2_4 hf_g2_4 hx_g2_5 hf_g2_5 hx_g2_6 hf_g2_6
 have n19_ : Aside0 ((((w13.setCell ⟨g2,1,none⟩ (.slice B1_ d.length d1_)).setCell ⟨g2,2,none⟩ (.slice B2_ t.length d2_)).setCell ⟨g2,3,none⟩ (.slice B3_ c.length d3_)).heap[g2]? = some (.cells #[.int .u64 b,.slice B1_ d.length d1_,.slice B2_ t.length d2_,.slice B3_ c.length d3_,.bool fin,.bool ft,.bool fc] 27 (0,0))):=⟨blk_put (blk_put (blk_put (BK_g2.out) 1 (.slice B1_ d.length d1_) (cs':=#[.int .u64 b,.slice B1_ d.length d1_,.slice A2 t.length c2,.slice A3 c.length c3,.bool fin,.bool ft,.bool fc]) rfl) 2 (.slice B2_ t.length d2_) (cs':=#[.int .u64 b,.slice B1_ d.length d1_,.slice B2_ t.length d2_,.slice A3 c.length c3,.bool fin,.bool ft,.bool fc]) rfl) 3 (.slice B3_ c.length d3_) (cs':=#[.int .u64 b,.slice B1_ d.length d1_,.slice B2_ t.length d2_,.slice B3_ c.length d3_,.bool fin,.bool ft,.bool fc]) rfl⟩
 have n20_ : Aside0 ((((w13.setCell ⟨g2,1,none⟩ (.slice B1_ d.length d1_)).setCell ⟨g2,2,none⟩ (.slice B2_ t.length d2_)).setCell ⟨g2,3,none⟩ (.slice B3_ c.length d3_)).heap[g4]? = some (.cells #[.int .u64 0,.slice none 0 0,.slice none 0 0,.slice none 0 0,.bool false,.bool false,.bool false] 27 (0,0))):=⟨blk_far (p:=⟨g2,3,none⟩) (blk_far (p:=⟨g2,2,none⟩) (blk_far (p:=⟨g2,1,none⟩) (BK_g4.out) NB_g4_g2 (.slice B1_ d.length d1_)) NB_g4_g2 (.slice B2_ t.length d2_)) NB_g4_g2 (.slice B3_ c.length d3_)⟩
 have n21_ : Aside0 (Kd.R (Kd.int .u8) 5 (((w13.setCell ⟨g2,1,none⟩ (.slice B1_ d.length d1_)).setCell ⟨g2,2,none⟩ (.slice B2_ t.length d2_)).setCell ⟨g2,3,none⟩ (.slice B3_ c.length d3_)) w.heap.size (fun _ => True) (.slice B1_ d.length d1_) (d)):=⟨Kd.R_mono (Kd.R_far (p:=⟨g2,3,none⟩) (Kd.R_far (p:=⟨g2,2,none⟩) (Kd.R_far (p:=⟨g2,1,none⟩) (Kd.R_types O_d.out BK_g2.out (ne_of rfl (by decide))) (fun _ hk => hk.2) (.slice B1_ d.length d1_)) (fun _ hk => hk.2) (.slice B2_ t.length d2_)) (fun _ hk => hk.2) (.slice B3_ c.length d3_)) (fun _ _ => trivial)⟩
 have n22_ : Aside0 (Kd.R k37 37 (((w13.setCell ⟨g2,1,none⟩ (.slice B1_ d.length d1_)).setCell ⟨g2,2,none⟩ (.slice B2_ t.length d2_)).setCell ⟨g2,3,none⟩ (.slice B3_ c.length d3_)) w.heap.size (fun _ => True) (.slice B2_ t.length d2_) (t)):=⟨Kd.R_mono (Kd.R_far (p:=⟨g2,3,none⟩) (Kd.R_far (p:=⟨g2,2,none⟩) (Kd.R_far (p:=⟨g2,1,none⟩) (Kd.R_types O_t.out BK_g2.out (ne_of rfl (by decide))) (fun _ hk => hk.2) (.slice B1_ d.length d1_)) (fun _ hk => hk.2) (.slice B2_ t.length d2_)) (fun _ hk => hk.2) (.slice B3_ c.length d3_)) (fun _ _ => trivial)⟩
 have n23_ : Aside0 (Kd.R k37 37 (((w13.setCell ⟨g2,1,none⟩ (.slice B1_ d.length d1_)).setCell ⟨g2,2,none⟩ (.slice B2_ t.length d2_)).setCell ⟨g2,3,none⟩ (.slice B3_ c.length d3_)) w.heap.size (fun _ => True) (.slice B3_ c.length d3_) (c)):=⟨Kd.R_mono (Kd.R_far (p:=⟨g2,3,none⟩) (Kd.R_far (p:=⟨g2,2,none⟩) (Kd.R_far (p:=⟨g2,1,none⟩) (Kd.R_types O_c.out BK_g2.out (ne_of rfl (by decide))) (fun _ hk => hk.2) (.slice B1_ d.length d1_)) (fun _ hk => hk.2) (.slice B2_ t.length d2_)) (fun _ hk => hk.2) (.slice B3_ c.length d3_)) (fun _ _ => trivial)⟩
 have n24_ : Aside0 (Below w.heap.size w (((w13.setCell ⟨g2,1,none⟩ (.slice B1_ d.length d1_)).setCell ⟨g2,2,none⟩ (.slice B2_ t.length d2_)).setCell ⟨g2,3,none⟩ (.slice B3_ c.length d3_))):=⟨below_set (below_set (below_set (HB.out) GE_g2.out (j:=1) (v:=.slice B1_ d.length d1_)) GE_g2.out (j:=2) (v:=.slice B2_ t.length d2_)) GE_g2.out (j:=3) (v:=.slice B3_ c.length d3_)⟩
 clear BK_g2 BK_g4 O_d O_t O_c HB
 have BK_g2:=n19_
 have BK_g4:=n20_
 have O_d:=n21_
 have O_t:=n22_
 have O_c:=n23_
 have HB:=n24_
 clear n19_ n20_ n21_ n22_ n23_ n24_
 generalize (((w13.setCell ⟨g2,1,none⟩ (.slice B1_ d.length d1_)).setCell ⟨g2,2,none⟩ (.slice B2_ t.length d2_)).setCell ⟨g2,3,none⟩ (.slice B3_ c.length d3_)) = w20 at BK_g2 BK_g4 O_d O_t O_c HB ⊢
 go_upto_region 3 with (first
  | ((refine gate_closure (f:=fid) rfl rfl ?_);refine goesC_ (some 18) rfl rfl hf hname hbd (#[.pointer (some ⟨g2,0,none⟩)] ++ cap) rfl rfl (by (try simp only [List.map_toArray,List.map_cons,List.map_nil]);first | done | rfl) ?_;refine (HDO.out g2 g4 _ _ _ _ _ BK_g2.out BK_g4.out NB_g2_g4 GE_g2.out O_d.out O_t.out O_c.out HB.out).mono ?_;rintro e_ w30 ⟨rfl,x0,B1,p1,q1,B2,p2,q2,B3,p3,q3,y4,y5,y6,hb2,hb4,hF,hb⟩;refine ⟨_,rfl,?_⟩;clear BK_g2 BK_g4 O_d O_t O_c HB;have BK_g2:=Aside0.mk hb2;have BK_g4:=Aside0.mk hb4;have HF:=Aside0.mk hF;have HB:=Aside0.mk hb;clear hb2 hb4 hF hb;obtain ⟨hx_g2_0,hf_g2_0,hx_g2_1,hf_g2_1,hx_g2_2,hf_g2_2,hx_g2_3,hf_g2_3,hx_g2_4,hf_g2_4,hx_g2_5,hf_g2_5,hx_g2_6,hf_g2_6⟩:=cells7 BK_g2.out;obtain ⟨hx_g4_0,hf_g4_0,hx_g4_1,hf_g4_1,hx_g4_2,hf_g4_2,hx_g4_3,hf_g4_3,hx_g4_4,hf_g4_4,hx_g4_5,hf_g4_5,hx_g4_6,hf_g4_6⟩:=cells7 BK_g4.out))
 go_wp2
 refine bodyPost_ret (results_cell_row rfl _ _ g4 27 #[.int .u64 x0,.slice B1 p1 q1,.slice B2 p2 q2,.slice B3 p3 q3,.bool y4,.bool y5,.bool y6] (0,0) _ rfl (blk_put7 BK_g4.out) Try.underlying27 rfl (by kernel_rfl)) rfl ?_
 unfold SPost
 exact ⟨x0,B1,p1,q1,B2,p2,q2,B3,p3,q3,y4,y5,y6,rfl,HST.out _ _ _ _ _ _ _ _ _ _ _ _ _ _ _ _ _ BK_g4.out HF.out,below_set7 HB.out GE_g4.out⟩

end Go.Proofs.Ytadhkamocbhbmaa.P
