-- Printed for this claim by xprint.py of this session: contracts of this session's own stand in for what the print does not take
import Derived.Test.YtndfddejdfnleaaPx0
namespace Go.Proofs.Ytndfddejdfnleaa.P
open Go.RowKit Go.Proofs.YtndfddejdfnleaaW.PrintWords Go.Proofs.YtndfddejdfnleaaW.PrintLast Go.Proofs.YtndfddejdfnleaaW.PrintMore
attribute [local go_sem] max2_int min2_int max_two min_two max_three min_three max_four min_four   -- for this text's walks alone
set_option linter.unusedVariables false
set_option linter.unusedSimpArgs false

/-! ### gather_Put_1: function 17 -/
theorem info5s : (Try.prog.info? 5).map (·.size) = some 1:=by kernel_rfl
section
open Go.RowKit
/-- A copy as one step of a region: the row's cells,told whole. -/
theorem step_copy_own {P : Program} {ops : Array Oper} {o : Oper} {a : Act} {w : World} {K : Act → World → Prop} {Q : Exit → Act → World → Prop} {E : Prop} (hgd : o.guard = none) (d s : Operand) (dT sT : TypeId)
  (ho : o.op = .call { callee:=.builtin .copy,args:=#[d,s],argTypes:=#[dT,sT] }) (elem : TypeId) (hu : P.underlying dT = some (.slice elem)) (hsz : (P.info? elem).map (·.size) = some 1)
  (g off dLen dCap : Nat) (ad : Addr) (sLen sCap : Nat) (hd : a.eval d = .slice (some ⟨g,off,none⟩) dLen dCap) (hs : a.eval s = .slice (some ad) sLen sCap)
  (cur : Array Value) (t : TypeId) (hg : w.heap[g]? = some (.cells cur t (0,0))) (cs : List Value) (hn : cs.length = Nat.min sLen dLen)
  (hsrc : ∀ j v,cs[j]? = some v → w.cell? (ad.add j) = some v) (hfit : off + cs.length ≤ cur.size) (h1 : ∀ v ∈ cs,v.oneCell' = true)
  (h : K (a.put o.dst (goInt cs.length)) (w.setRow g (cur.toList.take off ++ (cs ++ cur.toList.drop (off + cs.length))).toArray)) :
  if Region.wanted o (yielded ops a.tmps) = true then Oper.wp P o a w K Q else E:=by
 have hw : Region.wanted o (yielded ops a.tmps) = true:=by simp [Region.wanted,hgd]
 rw [if_pos hw]
 have hrun:=run_copy_row (P:=P) w dT sT o.type elem g off dLen dCap ad sLen sCap cur t cs hu hsz hg hn hsrc hfit h1
 unfold Oper.wp
 simp [execOp,ho,resolve,invoke,builtin,hd,hs,hrun,Result.andThen]
 exact h
theorem take_splice {α : Type} (L cs : List α) (p n : Nat) (h : p + cs.length ≤ n) (hn : n ≤ L.length) : (L.take p ++ (cs ++ L.drop (p + cs.length))).take n = splice (L.take n) p cs:=by
 unfold splice
 have e1 : (L.take p).length = p:=by rw [List.length_take];omega
 rw [List.take_append,List.take_append,e1,List.take_of_length_le (by omega : (L.take p).length ≤ n),List.take_of_length_le (by omega : cs.length ≤ n - p),List.take_take,Nat.min_eq_left (by omega),List.drop_take]
 congr 3
 omega
end
/-- What lay does to the bytes: those of the text that came,at their place. -/
def gather_Put_1.seg (l2 : List Int) (r n : Nat) : List Int:=(l2.drop r).take n
set_option maxHeartbeats 8000000 in
set_option maxRecDepth 100000 in
theorem gather_Put_1.hand (s0 s1 next off : Int) (p q r : Nat) (go gg gd gf : Nat) (n1 : Int) (k1 vd gk gdv : Value) (e1 ge : Bool) (z1 gz : Int) (A2 : Option Addr) (c2 : Nat) (d l2 : List Int) (ok : Nat → Prop) (w0 w : World)
  (hbo : w.heap[go]? = some (.cells #[.int .u64 n1,k1,vd,.bool e1,.int .u64 z1] 28 (0,0))) (hbg : w.heap[gg]? = some (.cells #[.int .u64 next,gk,gdv,.bool ge,.int .u64 gz] 28 (0,0)))
  (hbd : w.heap[gd]? = some (.cells #[.slice A2 l2.length c2] 23 (0,0))) (hbf : w.heap[gf]? = some (.cells #[.int .u64 off] 25 (0,0)))
  (ho : Kd.R (Kd.int .u8) 5 w w0.heap.size ok vd d) (hC : Kd.C (Kd.int .u8) w A2 l2.length l2) (hc2 : l2.length ≤ c2) (hB : Below w0.heap.size w0 w)
  (h1 : IntKind.u64.wrap (s0 - next) = (p : Int)) (h2 : IntKind.u64.wrap (s1 - next) = (q : Int)) (h3 : IntKind.u64.wrap (s0 - off) = (r : Int)) (hpq : p < q) (hq : q ≤ d.length) (hr : r + (q - p) ≤ l2.length) :
  Calls Try.prog 17 #[.agg #[.int .u64 s0,.int .u64 s1],.pointer (some ⟨go,0,none⟩),.pointer (some ⟨gg,0,none⟩),.pointer (some ⟨gd,0,none⟩),.pointer (some ⟨gf,0,none⟩)] w fun e w' => e = .returned (.tuple #[]) ∧ Kd.R (Kd.int .u8) 5 w' w0.heap.size ok vd (splice d p (gather_Put_1.seg l2 r (q - p))) ∧ Below w0.heap.size w0 w' ∧ ∀ (g : Nat) (o : Obj),w.heap[g]? = some o → some g ≠ vd.ownBlock → w'.heap[g]? = some o:=by
 obtain ⟨gv,cv,rfl,hgv,hlt,cells,hcells⟩:=Kd.R_form ho (by omega)
 have own:=Kd.own_of_R ho
 rcases own.2 with ⟨hnil,_⟩ | ⟨g',cap,cur,hv,hb',hh,hnc,hcm,hcs,htake⟩
 ·cases hnil
 have hvv : gv = g' ∧ cv = cap:=by injection hv with e1 e2 e3;injection e1 with e1;injection e1 with e1;exact ⟨e1,e3⟩
 obtain ⟨rfl,rfl⟩:=hvv
 obtain ⟨ad,eA,hcell⟩:=(Kd.reads_of_C (d:=0) hC).2.2 (show 0 < l2.length by omega)
 subst eA
 obtain ⟨i0,hi0,hz0⟩:=Option.map_eq_some_iff.1 info5s
 have hel : Try.prog.elem 23 = 5:=by simp [Program.elem,Try.underlying23]
 have hu : Try.prog.underlying 23 = some (.slice (Try.prog.elem 23)):=by rw [hel];exact Try.underlying23
 have hcut1 : ∀ W : World,(Instr.slice 23 (.slice (some ⟨gv,0,none⟩) d.length cv) (some (.int .u64 (p : Int))) (some (.int .u64 (q : Int))) (some (.int .u64 (q : Int)))).run Try.prog W = .ok (.slice (some ⟨gv,p,none⟩) (q - p) (q - p)) W:=by
  intro W
  rw [run_slice_lhm W 23 _ d.length cv hu .u64 .u64 .u64 p q q (by omega) (by omega) (by omega) (by omega),hel]
  simp [sizeOf,typeInfo,hi0,hz0,sliced,Result.andThen,show ¬ q = p by omega,add_plain]
 have hcut2 : ∀ W : World,(Instr.slice 23 (.slice (some ad) l2.length c2) (some (.int .u64 (r : Int))) none none).run Try.prog W = .ok (.slice (some (ad.add r)) (l2.length - r) (c2 - r)) W:=by
  intro W
  rw [run_slice_l W 23 _ l2.length c2 hu .u64 r (by omega) (by omega),hel]
  simp [sizeOf,typeInfo,hi0,hz0,sliced,Result.andThen,show ¬ c2 = r by omega]
 have hsl : (gather_Put_1.seg l2 r (q - p)).length = q - p:=by unfold gather_Put_1.seg;rw [List.length_take,List.length_drop];omega
 have hsrc : Aside0 (∀ j v,(encs (Value.int .u8) (gather_Put_1.seg l2 r (q - p)))[j]? = some v → w.cell? ((ad.add r).add j) = some v):=⟨fun j v hv => by
  have hj : j < q - p:=by
   rcases Nat.lt_or_ge j (q - p) with h | h
   ·exact h
   ·rw [List.getElem?_eq_none (by rw [encs_length,hsl];exact h)] at hv;cases hv
  have e3:=hcell (r + j) (by omega)
  have ha : (ad.add r).add j = ad.add (r + j):=by
   unfold Addr.add
   by_cases h1 : r = 0 <;> by_cases h2 : j = 0 <;> simp [h1,h2,Nat.add_assoc]
  rw [ha,e3,← hv]
  unfold encs gather_Put_1.seg
  rw [List.getElem?_map,List.getElem?_take,if_pos hj,List.getElem?_drop,List.getElem?_eq_getElem (by omega),List.getD_eq_getElem?_getD,List.getElem?_eq_getElem (by omega)]
  rfl⟩
 have hcl : (encs (Value.int .u8) (gather_Put_1.seg l2 r (q - p))).length = q - p:=by rw [encs_length,hsl]
 have HN : Aside0 (p < q ∧ q ≤ d.length ∧ r + (q - p) ≤ l2.length ∧ d.length ≤ cv ∧ cur.size = cv ∧ cur.toList.take d.length = encs (Value.int .u8) d ∧ w0.heap.size ≤ gv ∧ cv ≤ maxLen):=⟨⟨hpq,hq,hr,hnc,by rw [hcs,Nat.mul_one],by rw [← htake,Nat.mul_one],hgv,hcm⟩⟩
 have BO:=Aside0.mk hbo
 have BG:=Aside0.mk hbg
 have BD:=Aside0.mk hbd
 have BF:=Aside0.mk hbf
 have HO:=Aside0.mk ho
 have HB:=Aside0.mk hB
 have HR:=Aside0.mk hh
 have HW:=Aside0.mk (show ∀ (g : Nat) (o : Obj),w.heap[g]? = some o → w.heap[g]? = some o from fun _ _ h => h)
 have HL:=Aside0.mk hcl
 clear hbo hbg hbd hbf ho hB hh own hC hcell hcells hnc hcm hcs htake hv hb' hlt hpq hq hr hgv hsl hcl hi0 hz0 hel hu hc2
 go_enter Try.func17,Try.ntmps17
 go_upto_region 1 with (first | ((with_reducible refine gate_dst (N:=5) rfl ?_);refine box_event ?hg (N:=5) ?hd (cs:=#[.int .u64 s0,.int .u64 s1]) (t:=41) ?hr ?_;(case hd => rfl);(case hg => rfl);(case hr => first | (go_simp;done) | (go_simp;rfl));intro gb5 hg w5 hbox hb;have B5:=Aside0.mk hbox;have n0_:=Aside0.mk (blk_below BO.out hb);have n1_:=Aside0.mk (blk_below BG.out hb);have n2_:=Aside0.mk (blk_below BD.out hb);have n3_:=Aside0.mk (blk_below BF.out hb);have n4_:=Aside0.mk (Kd.R_below HO.out hb);have n5_:=Aside0.mk (below_step HB.out hb);have n6_:=Aside0.mk (blk_below HR.out hb);have n7_:=Aside0.mk (show ∀ (g : Nat) (o : Obj),w.heap[g]? = some o → w5.heap[g]? = some o from fun g o h => blk_below h hb);have n8_:=Aside0.mk (fun j v hv => pw_cell_below hb (hsrc.out j v hv));clear BO BG BD BF HO HB HR HW hsrc;have BO:=n0_;have BG:=n1_;have BD:=n2_;have BF:=n3_;have HO:=n4_;have HB:=n5_;have HR:=n6_;have HW:=n7_;have hsrc:=n8_;clear n0_ n1_ n2_ n3_ n4_ n5_ n6_ n7_ n8_ hbox hb hg))
 (try simp only [Act.put,List.setIfInBounds_toArray,List.set_cons_zero,List.set_cons_succ])
 refine start_ (n:=25) (S:=fun w' => w'.cell? ⟨go,2,none⟩ = some (.slice (some ⟨gv,0,none⟩) d.length cv) ∧ w'.cell? ⟨gb5,0,none⟩ = some (.int .u64 s0) ∧ w'.cell? ⟨gb5,1,none⟩ = some (.int .u64 s1) ∧ w'.cell? ⟨gg,0,none⟩ = some (.int .u64 next) ∧ w'.cell? ⟨gd,0,none⟩ = some (.slice (some ad) l2.length c2) ∧ w'.cell? ⟨gf,0,none⟩ = some (.int .u64 off)) (ds:=[24]) #[false,false,false,false,false,false,false,false,false,false,false,false,false,false,false,false,false,false,false,false,false,false,false,false,false] (by kernel_rfl) rfl rfl ⟨(blk_cell BO.out 2).trans rfl,(blk_cell B5.out 0).trans rfl,(blk_cell B5.out 1).trans rfl,(blk_cell BG.out 0).trans rfl,(blk_cell BD.out 0).trans rfl,(blk_cell BF.out 0).trans rfl⟩ (fun hHeld => ?_)
 refine pure_ (i:=0) (N:=some 6) (v:=?_) (a':=?_) #[true,false,false,false,false,false,false,false,false,false,false,false,false,false,false,false,false,false,false,false,false,false,false,false,false] rfl rfl (by kernel_rfl) (fun _ _ _ h => h) (Or.inl ⟨by rfl,?_⟩) ?_ ?_
 rotate_left
 ·intro w'
  go_simp
  with_reducible rfl
 rotate_left
 ·simp only [Act.put,List.setIfInBounds_toArray,List.set_cons_zero,List.set_cons_succ,i64_w,i32_w]
  rfl
 refine pure_ (i:=2) (N:=some 8) (v:=?_) (a':=?_) #[true,false,true,false,false,false,false,false,false,false,false,false,false,false,false,false,false,false,false,false,false,false,false,false,false] rfl rfl (by kernel_rfl) (fun _ _ _ h => h) (Or.inl ⟨by rfl,?_⟩) ?_ ?_
 rotate_left
 ·intro w'
  go_simp
  with_reducible rfl
 rotate_left
 ·simp only [Act.put,List.setIfInBounds_toArray,List.set_cons_zero,List.set_cons_succ,i64_w,i32_w]
  rfl
 refine pure_ (i:=4) (N:=some 10) (v:=?_) (a':=?_) #[true,false,true,false,true,false,false,false,false,false,false,false,false,false,false,false,false,false,false,false,false,false,false,false,false] rfl rfl (by kernel_rfl) (fun _ _ _ h => h) (Or.inl ⟨by rfl,?_⟩) ?_ ?_
 rotate_left
 ·intro w'
  go_simp
  with_reducible rfl
 rotate_left
 ·simp only [Act.put,List.setIfInBounds_toArray,List.set_cons_zero,List.set_cons_succ,i64_w,i32_w]
  rfl
 refine pure_ (i:=7) (N:=some 13) (v:=?_) (a':=?_) #[true,false,true,false,true,false,false,true,false,false,false,false,false,false,false,false,false,false,false,false,false,false,false,false,false] rfl rfl (by kernel_rfl) (fun _ _ _ h => h) (Or.inl ⟨by rfl,?_⟩) ?_ ?_
 rotate_left
 ·intro w'
  go_simp
  with_reducible rfl
 rotate_left
 ·simp only [Act.put,List.setIfInBounds_toArray,List.set_cons_zero,List.set_cons_succ,i64_w,i32_w]
  rfl
 refine pure_ (i:=9) (N:=some 15) (v:=?_) (a':=?_) #[true,false,true,false,true,false,false,true,false,true,false,false,false,false,false,false,false,false,false,false,false,false,false,false,false] rfl rfl (by kernel_rfl) (fun _ _ _ h => h) (Or.inl ⟨by rfl,?_⟩) ?_ ?_
 rotate_left
 ·intro w'
  go_simp
  with_reducible rfl
 rotate_left
 ·simp only [Act.put,List.setIfInBounds_toArray,List.set_cons_zero,List.set_cons_succ,i64_w,i32_w]
  rfl
 refine pure_ (i:=12) (N:=some 18) (v:=?_) (a':=?_) #[true,false,true,false,true,false,false,true,false,true,false,false,true,false,false,false,false,false,false,false,false,false,false,false,false] rfl rfl (by kernel_rfl) (fun _ _ _ h => h) (Or.inl ⟨by rfl,?_⟩) ?_ ?_
 rotate_left
 ·intro w'
  go_simp
  with_reducible rfl
 rotate_left
 ·simp only [Act.put,List.setIfInBounds_toArray,List.set_cons_zero,List.set_cons_succ,i64_w,i32_w]
  rfl
 refine pure_ (i:=14) (N:=some 20) (v:=?_) (a':=?_) #[true,false,true,false,true,false,false,true,false,true,false,false,true,false,true,false,false,false,false,false,false,false,false,false,false] rfl rfl (by kernel_rfl) (fun _ _ _ h => h) (Or.inl ⟨by rfl,?_⟩) ?_ ?_
 rotate_left
 ·intro w'
  go_simp
  with_reducible rfl
 rotate_left
 ·simp only [Act.put,List.setIfInBounds_toArray,List.set_cons_zero,List.set_cons_succ,i64_w,i32_w]
  rfl
 refine pure_ (i:=19) (N:=some 25) (v:=?_) (a':=?_) #[true,false,true,false,true,false,false,true,false,true,false,false,true,false,true,false,false,false,false,true,false,false,false,false,false] rfl rfl (by kernel_rfl) (fun _ _ _ h => h) (Or.inl ⟨by rfl,?_⟩) ?_ ?_
 rotate_left
 ·intro w'
  go_simp
  with_reducible rfl
 rotate_left
 ·simp only [Act.put,List.setIfInBounds_toArray,List.set_cons_zero,List.set_cons_succ,i64_w,i32_w]
  rfl
 refine take_ (i:=1) (N:=some 7) (v:=?_) (a':=?_) #[true,true,true,false,true,false,false,true,false,true,false,false,true,false,true,false,false,false,false,true,false,false,false,false,false] rfl rfl (by kernel_rfl) (fun _ _ _ h => h) (Or.inl ⟨by rfl,?_⟩) hHeld ?_ ?_
 rotate_left
 ·rintro w' ⟨s0,s1,s2,s3,s4,s5⟩
  go_simp
  with_reducible rfl
 rotate_left
 ·simp only [Act.put,List.setIfInBounds_toArray,List.set_cons_zero,List.set_cons_succ,i64_w,i32_w]
  rfl
 refine take_ (i:=3) (N:=some 9) (v:=?_) (a':=?_) #[true,true,true,true,true,false,false,true,false,true,false,false,true,false,true,false,false,false,false,true,false,false,false,false,false] rfl rfl (by kernel_rfl) (fun _ _ _ h => h) (Or.inl ⟨by rfl,?_⟩) hHeld ?_ ?_
 rotate_left
 ·rintro w' ⟨s0,s1,s2,s3,s4,s5⟩
  go_simp
  with_reducible rfl
 rotate_left
 ·simp only [Act.put,List.setIfInBounds_toArray,List.set_cons_zero,List.set_cons_succ,i64_w,i32_w]
  rfl
 refine take_ (i:=5) (N:=some 11) (v:=?_) (a':=?_) #[true,true,true,true,true,true,false,true,false,true,false,false,true,false,true,false,false,false,false,true,false,false,false,false,false] rfl rfl (by kernel_rfl) (fun _ _ _ h => h) (Or.inl ⟨by rfl,?_⟩) hHeld ?_ ?_
 rotate_left
 ·rintro w' ⟨s0,s1,s2,s3,s4,s5⟩
  go_simp
  with_reducible rfl
 rotate_left
 ·simp only [Act.put,List.setIfInBounds_toArray,List.set_cons_zero,List.set_cons_succ,i64_w,i32_w]
  rfl
 refine pure_ (i:=6) (N:=some 12) (v:=?_) (a':=?_) #[true,true,true,true,true,true,true,true,false,true,false,false,true,false,true,false,false,false,false,true,false,false,false,false,false] rfl rfl (by kernel_rfl) (fun _ _ _ h => h) (Or.inl ⟨by rfl,?_⟩) ?_ ?_
 rotate_left
 ·intro w'
  go_simp
  with_reducible rfl
 rotate_left
 ·simp only [Act.put,List.setIfInBounds_toArray,List.set_cons_zero,List.set_cons_succ,i64_w,i32_w]
  rfl
 refine take_ (i:=8) (N:=some 14) (v:=?_) (a':=?_) #[true,true,true,true,true,true,true,true,true,true,false,false,true,false,true,false,false,false,false,true,false,false,false,false,false] rfl rfl (by kernel_rfl) (fun _ _ _ h => h) (Or.inl ⟨by rfl,?_⟩) hHeld ?_ ?_
 rotate_left
 ·rintro w' ⟨s0,s1,s2,s3,s4,s5⟩
  go_simp
  with_reducible rfl
 rotate_left
 ·simp only [Act.put,List.setIfInBounds_toArray,List.set_cons_zero,List.set_cons_succ,i64_w,i32_w]
  rfl
 refine take_ (i:=10) (N:=some 16) (v:=?_) (a':=?_) #[true,true,true,true,true,true,true,true,true,true,true,false,true,false,true,false,false,false,false,true,false,false,false,false,false] rfl rfl (by kernel_rfl) (fun _ _ _ h => h) (Or.inl ⟨by rfl,?_⟩) hHeld ?_ ?_
 rotate_left
 ·rintro w' ⟨s0,s1,s2,s3,s4,s5⟩
  go_simp
  with_reducible rfl
 rotate_left
 ·simp only [Act.put,List.setIfInBounds_toArray,List.set_cons_zero,List.set_cons_succ,i64_w,i32_w]
  rfl
 refine pure_ (i:=11) (N:=some 17) (v:=?_) (a':=?_) #[true,true,true,true,true,true,true,true,true,true,true,true,true,false,true,false,false,false,false,true,false,false,false,false,false] rfl rfl (by kernel_rfl) (fun _ _ _ h => h) (Or.inl ⟨by rfl,?_⟩) ?_ ?_
 rotate_left
 ·intro w'
  go_simp
  with_reducible rfl
 rotate_left
 ·simp only [Act.put,List.setIfInBounds_toArray,List.set_cons_zero,List.set_cons_succ,i64_w,i32_w]
  rfl
 refine take_ (i:=13) (N:=some 19) (v:=?_) (a':=?_) #[true,true,true,true,true,true,true,true,true,true,true,true,true,true,true,false,false,false,false,true,false,false,false,false,false] rfl rfl (by kernel_rfl) (fun _ _ _ h => h) (Or.inl ⟨by rfl,?_⟩) hHeld ?_ ?_
 rotate_left
 ·rintro w' ⟨s0,s1,s2,s3,s4,s5⟩
  go_simp
  with_reducible rfl
 rotate_left
 ·simp only [Act.put,List.setIfInBounds_toArray,List.set_cons_zero,List.set_cons_succ,i64_w,i32_w]
  rfl
 refine take_ (i:=15) (N:=some 21) (v:=?_) (a':=?_) #[true,true,true,true,true,true,true,true,true,true,true,true,true,true,true,true,false,false,false,true,false,false,false,false,false] rfl rfl (by kernel_rfl) (fun _ _ _ h => h) (Or.inl ⟨by rfl,?_⟩) hHeld ?_ ?_
 rotate_left
 ·rintro w' ⟨s0,s1,s2,s3,s4,s5⟩
  go_simp
  with_reducible rfl
 rotate_left
 ·simp only [Act.put,List.setIfInBounds_toArray,List.set_cons_zero,List.set_cons_succ,i64_w,i32_w]
  rfl
 refine pure_ (i:=16) (N:=some 22) (v:=?_) (a':=?_) #[true,true,true,true,true,true,true,true,true,true,true,true,true,true,true,true,true,false,false,true,false,false,false,false,false] rfl rfl (by kernel_rfl) (fun _ _ _ h => h) (Or.inl ⟨by rfl,?_⟩) ?_ ?_
 rotate_left
 ·intro w'
  go_simp
  with_reducible rfl
 rotate_left
 ·simp only [Act.put,List.setIfInBounds_toArray,List.set_cons_zero,List.set_cons_succ,i64_w,i32_w]
  rfl
 refine pure_ (i:=17) (N:=some 23) (v:=?_) (a':=?_) #[true,true,true,true,true,true,true,true,true,true,true,true,true,true,true,true,true,true,false,true,false,false,false,false,false] rfl rfl (by kernel_rfl) (fun _ _ _ h => h) (Or.inl ⟨by rfl,?_⟩) ?_ ?_
 rotate_left
 ·intro w'
  go_simp
  with_reducible rfl
 rotate_left
 ·simp only [Act.put,List.setIfInBounds_toArray,List.set_cons_zero,List.set_cons_succ,i64_w,i32_w]
  rfl
 refine take_ (i:=18) (N:=some 24) (v:=?_) (a':=?_) #[true,true,true,true,true,true,true,true,true,true,true,true,true,true,true,true,true,true,true,true,false,false,false,false,false] rfl rfl (by kernel_rfl) (fun _ _ _ h => h) (Or.inl ⟨by rfl,?_⟩) hHeld ?_ ?_
 rotate_left
 ·rintro w' ⟨s0,s1,s2,s3,s4,s5⟩
  go_simp
  with_reducible rfl
 rotate_left
 ·simp only [Act.put,List.setIfInBounds_toArray,List.set_cons_zero,List.set_cons_succ,i64_w,i32_w]
  rfl
 refine take_ (i:=20) (N:=some 26) (v:=?_) (a':=?_) #[true,true,true,true,true,true,true,true,true,true,true,true,true,true,true,true,true,true,true,true,true,false,false,false,false] rfl rfl (by kernel_rfl) (fun _ _ _ h => h) (Or.inl ⟨by rfl,?_⟩) hHeld ?_ ?_
 rotate_left
 ·rintro w' ⟨s0,s1,s2,s3,s4,s5⟩
  go_simp
  with_reducible rfl
 rotate_left
 ·simp only [Act.put,List.setIfInBounds_toArray,List.set_cons_zero,List.set_cons_succ,i64_w,i32_w]
  rfl
 refine take_ (i:=21) (N:=some 27) (v:=?_) (a':=?_) #[true,true,true,true,true,true,true,true,true,true,true,true,true,true,true,true,true,true,true,true,true,true,false,false,false] rfl rfl (by kernel_rfl) (fun _ _ _ h => h) (Or.inl ⟨by rfl,?_⟩) hHeld ?_ ?_
 rotate_left
 ·rintro w' ⟨s0,s1,s2,s3,s4,s5⟩
  go_simp
  with_reducible rfl
 rotate_left
 ·simp only [Act.put,List.setIfInBounds_toArray,List.set_cons_zero,List.set_cons_succ,i64_w,i32_w]
  rfl
 refine pure_ (i:=22) (N:=some 28) (v:=?_) (a':=?_) #[true,true,true,true,true,true,true,true,true,true,true,true,true,true,true,true,true,true,true,true,true,true,true,false,false] rfl rfl (by kernel_rfl) (fun _ _ _ h => h) (Or.inl ⟨by rfl,?_⟩) ?_ ?_
 rotate_left
 ·intro w'
  go_simp
  with_reducible rfl
 rotate_left
 ·simp only [Act.put,List.setIfInBounds_toArray,List.set_cons_zero,List.set_cons_succ,i64_w,i32_w]
  rfl
 refine pure_ (i:=23) (N:=some 29) (v:=?_) (a':=?_) #[true,true,true,true,true,true,true,true,true,true,true,true,true,true,true,true,true,true,true,true,true,true,true,true,false] rfl rfl (by kernel_rfl) (fun _ _ _ h => h) (Or.inl ⟨by rfl,?_⟩) ?_ ?_
 rotate_left
 ·intro w'
  go_simp
  with_reducible rfl
 rotate_left
 ·simp only [Act.put,List.setIfInBounds_toArray,List.set_cons_zero,List.set_cons_succ,i64_w,i32_w]
  rfl
 refine last_ (i:=24) (N:=some 30) #[true,true,true,true,true,true,true,true,true,true,true,true,true,true,true,true,true,true,true,true,true,true,true,true,true] rfl rfl (by kernel_rfl) (by decide) (fun K hK => ?_)
 refine step_copy_own rfl (.tmp 23) (.tmp 29) 23 23 rfl 5 Try.underlying23 info5s gv p (q - p) (q - p) (ad.add r) (l2.length - r) (c2 - r) rfl rfl cur 5 (blk_drew HR.out) (encs (Value.int .u8) (gather_Put_1.seg l2 r (q - p))) (by rw [HL.out];have h_:=HN.out;show q - p = min (l2.length - r) (q - p);omega) (fun j v hv => hsrc.out j v hv) (by rw [HL.out];have h_:=HN.out;omega) (by intro v hv;obtain ⟨x_,_,rfl⟩:=List.mem_map.mp hv;rfl) ?_
 refine hK.out _ _ ?_
 clear hK K
 refine norm_ (a':=?_) ?_ ?_
 rotate_left
 ·show Act.put _ (some 30) _ = _
  simp only [Act.put,List.setIfInBounds_toArray,List.set_cons_zero,List.set_cons_succ,i64_w,i32_w]
  rfl
 refine done_ (by kernel_rfl) ?_
 go_end0
 obtain ⟨hpq,hq,hr,hnc,hcs,htake,hgv,hml⟩:=HN.out
 have hl:=HL.out
 have hsg : (gather_Put_1.seg l2 r (q - p)).length = q - p:=by rw [encs_length] at hl;exact hl
 have hln : (splice d p (gather_Put_1.seg l2 r (q - p))).length = d.length:=length_splice _ _ _ (by rw [hsg];omega)
 have hct : cur.toList.length = cv:=by rw [Array.length_toList];exact hcs
 have own2 : (w5.drew.setRow gv (List.take p cur.toList ++ (encs (Value.int .u8) (gather_Put_1.seg l2 r (q - p)) ++ List.drop (p + (encs (Value.int .u8) (gather_Put_1.seg l2 r (q - p))).length) cur.toList)).toArray).ownsRow w0.heap.size 5 1 (.slice (some ⟨gv,0,none⟩) d.length cv) (splice d p (gather_Put_1.seg l2 r (q - p))).length (encs (Value.int .u8) (splice d p (gather_Put_1.seg l2 r (q - p)))):=by
  rw [hln]
  refine ⟨by rw [encs_length,hln,Nat.mul_one],.inr ⟨gv,cv,_,rfl,hgv,setRow_heap _ gv _ _ _ _ (blk_drew HR.out),hnc,hml,?_,?_⟩⟩
  ·rw [List.size_toArray,List.length_append,List.length_append,List.length_take,List.length_drop,hl,hct];omega
  ·rw [Nat.mul_one]
   show List.take d.length (List.take p cur.toList ++ (encs (Value.int .u8) (gather_Put_1.seg l2 r (q - p)) ++ List.drop (p + (encs (Value.int .u8) (gather_Put_1.seg l2 r (q - p))).length) cur.toList)) = _
   rw [take_splice _ _ p d.length (by rw [hl];omega) (by omega),htake]
   unfold splice encs
   simp [List.map_take,List.map_drop]
 exact ⟨rfl,Kd.R_of_own own2 HO.out.1,below_setRow (below_drew HB.out) hgv _,fun g o h hne => (setRow_other _ gv g _ (by rintro rfl;exact hne (by simp [Value.ownBlock]))).trans (HW.out g o h)⟩

end Go.Proofs.Ytndfddejdfnleaa.P
