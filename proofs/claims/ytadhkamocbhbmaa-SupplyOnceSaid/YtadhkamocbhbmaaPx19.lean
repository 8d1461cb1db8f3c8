-- Printed for this claim by xprint.py of this session: contracts of this session's own stand in for what the print does not take
import Derived.Test.YtadhkamocbhbmaaPx0
import Derived.Test.YtadhkamocbhbmaaPx2
import Derived.Test.YtadhkamocbhbmaaPx4
import Derived.Test.YtadhkamocbhbmaaPx6
import Derived.Test.YtadhkamocbhbmaaPx7
import Derived.Test.YtadhkamocbhbmaaPx10
import Derived.Test.YtadhkamocbhbmaaPx16
import Derived.Test.YtadhkamocbhbmaaPx17
namespace Go.Proofs.Ytadhkamocbhbmaa.P
open Go.RowKit Go.Proofs.YtadhkamocbhbmaaW.PrintWords Go.Proofs.YtadhkamocbhbmaaW.PrintLast Go.Proofs.YtadhkamocbhbmaaW.PrintMore
attribute [local go_sem] max2_int min2_int max_two min_two max_three min_three max_four min_four   -- for this text's walks alone
set_option linter.unusedVariables false
set_option linter.unusedSimpArgs false

/-! ### wigwaglaw18_SupplyOnce: function 4 -/
theorem once_write {d p : List Int} {t t1 : List S37} {k : Nat} (hT : span_Add.f k t (d.length : Int) ((d.length : Int) + (p.length : Int)) = some t1) (h1 : d.length + p.length ≤ 100000) (h2 : t.length < 1000000) : supply_Write.f k 0 d t [] false false false p = some (0,d ++ p,t1,[],false,false,false,0):=by
 unfold supply_Write.f
 rw [if_pos ⟨by omega,by omega,by simp,by decide,rfl,by omega⟩,Int.zero_add,hT,Option.bind_some]
/-- A part is put in,and at most so many bytes are told. -/
def once_tell (size : Int) (d : List Int) (t : List S37) (ft : Bool) : Option (Int × Int × List S37 × List Int × Bool) :=
 if (rd_T37 t 0).f0 < mn (rd_T37 t 0).f1 1048576 ∧ 0 ≤ (rd_T37 t 0).f0 ∧ (rd_T37 t 0).f0 ≤ mn (mn (rd_T37 t 0).f1 1048576) (IntKind.u64.wrap ((rd_T37 t 0).f0 + IntKind.u64.wrap size)) ∧ mn (mn (rd_T37 t 0).f1 1048576) (IntKind.u64.wrap ((rd_T37 t 0).f0 + IntKind.u64.wrap size)) ≤ (d.length : Int) then
  (span_Cut.f t (rd_T37 t 0).f0 (mn (mn (rd_T37 t 0).f1 1048576) (IntKind.u64.wrap ((rd_T37 t 0).f0 + IntKind.u64.wrap size)))).bind fun t2 =>
   some ((rd_T37 t 0).f0,mn (mn (rd_T37 t 0).f1 1048576) (IntKind.u64.wrap ((rd_T37 t 0).f0 + IntKind.u64.wrap size)),t2,(d.take (mn (mn (rd_T37 t 0).f1 1048576) (IntKind.u64.wrap ((rd_T37 t 0).f0 + IntKind.u64.wrap size))).toNat).drop (rd_T37 t 0).f0.toNat,(ft && (mn (mn (rd_T37 t 0).f1 1048576) (IntKind.u64.wrap ((rd_T37 t 0).f0 + IntKind.u64.wrap size)) == (d.length : Int))))
 else none
def once_go1 (k : Nat) (size : Int) : List (List Int) → List Int → List S37 → List Int → Option (List Int × List S37 × List Int)
 | [],d,t,o => some (d,t,o)
 | p :: ps,d,t,o => if (p.length : Int) > 100 then once_go1 k size ps d t o else
  (span_Add.f k t (d.length : Int) ((d.length : Int) + (p.length : Int))).bind fun t1 => if d.length + p.length ≤ 100000 ∧ t.length < 1000000 ∧ t1.length < 1000000 ∧ o.length < 1000000 then
   if t1.length = 0 then once_go1 k size ps (d ++ p) t1 o
   else (once_tell size (d ++ p) t1 false).bind fun x => if x.1 = (o.length : Int) then once_go1 k size ps (d ++ p) x.2.2.1 (o ++ x.2.2.2.1) else none
  else none
def once_go2 (size : Int) (d : List Int) : Nat → List S37 → Bool → List Int → Bool → Option (List S37 × Bool × List Int × Bool)
 | 0,t,ft,o,fin => some (t,ft,o,fin)
 | n + 1,t,ft,o,fin => if t.length < 1000000 ∧ o.length < 1000000 then
   if t.length = 0 then (if ft = false then some (t,ft,o,fin) else if fin = false ∧ (d.length : Int) = (o.length : Int) then (span_Cut.f t (d.length : Int) (d.length : Int)).bind fun t2 => once_go2 size d n t2 false o true else none)
   else (once_tell size d t ft).bind fun x => if fin = false ∧ x.1 = (o.length : Int) then once_go2 size d n x.2.2.1 (ft && !x.2.2.2.2) (o ++ x.2.2.2.1) x.2.2.2.2 else none
  else none
def wigwaglaw18_SupplyOnce.f (k : Nat) (l0 : List (List Int)) (a1 : Int) : Option Bool :=
 if a1 < 1 then some true else
 (once_go1 k a1 (l0.take 20) [] [] []).bind fun x => if x.1.length ≤ 100000 ∧ x.2.1.length < 1000000 then
  (once_go2 a1 x.1 2100 x.2.1 true x.2.2 false).bind fun y => if y.2.2.2 = true ∧ y.2.2.1 = x.1 then some true else none
 else none
set_option maxHeartbeats 8000000 in
set_option maxRecDepth 100000 in
theorem wigwaglaw18_SupplyOnce.calls (k : Nat) (A0 : Option Addr) (c0 : Nat) (l0 : List (List Int)) (a1 : Int) (r : Bool) (w : World) (hr0 : Kd.C (Kd.slice 5 (Kd.int .u8)) w A0 l0.length l0) (hc0 : l0.length ≤ c0) (h : wigwaglaw18_SupplyOnce.f k l0 a1 = some r) :
  Calls Try.prog 4 #[.slice A0 l0.length c0,.int .i64 a1] w fun e w' => e = .returned (.bool r) ∧ Below w.heap.size w w':=by
 have HR0:=Aside0.mk hr0
 have HB:=Aside0.mk (Below.refl w.heap.size w)
 clear hr0 hc0
 unfold wigwaglaw18_SupplyOnce.f at h
 by_cases c1 : a1 < 1
 case pos =>
  rw [if_pos c1] at h
  obtain rfl:=Option.some.inj h
  have k0 : decide (a1 < 1) = true:=decide_eq_true c1
  clear c1 h
  go_enter Try.func4,Try.ntmps4
  go_wp2_with (go_at_call 8;refine (wigwaglaw18_awake.calls true _ rfl).mono ?_;rintro e_ w1 ⟨rfl,hb⟩;have HB2:=Aside0.mk (below_step HB.out hb);clear HB hb;have HB:=HB2;clear HB2)
  go_ret
  exact ⟨rfl,HB.out⟩
 rw [if_neg c1] at h
 have k0 : decide (a1 < 1) = false:=decide_eq_false c1
 have HA1:=Aside0.mk (show 0 < a1 by omega)
 clear c1
 obtain ⟨⟨d9,t9,o9⟩,P1,h⟩:=Option.bind_eq_some_iff.mp h
 by_cases c2 : d9.length ≤ 100000 ∧ t9.length < 1000000
 case neg => rw [if_neg c2] at h;cases h
 rw [if_pos c2] at h
 obtain ⟨⟨t8,ft8,o8,fin8⟩,P2,h⟩:=Option.bind_eq_some_iff.mp h
 by_cases c3 : fin8 = true ∧ o8 = d9
 case neg => rw [if_neg c3] at h;cases h
 rw [if_pos c3] at h
 obtain rfl:=Option.some.inj h
 obtain ⟨rfl,rfl⟩:=c3
 replace P1:=Aside0.mk P1
 replace P2:=Aside0.mk P2
 have HD9:=Aside0.mk c2
 clear c2 h
 go_enter Try.func4,Try.ntmps4
 go_upto_region 4 with (go_at_call 8;refine (wigwaglaw18_awake.calls true _ rfl).mono ?_;rintro e_ w1 ⟨rfl,hb⟩;have HB2:=Aside0.mk (below_step HB.out hb);clear HB hb;have HB:=HB2;clear HB2)
 go_upto_region 5 with (first | ((with_reducible refine gate_dst (N:=6) rfl ?_);refine box_event ?hg (N:=6) ?hd (cs:=#[.int .u64 0,.slice none 0 0,.slice none 0 0,.slice none 0 0,.bool false,.bool false,.bool false]) (t:=27) ?hr ?_;(case hd => rfl);(case hg => rfl);(case hr => first | (go_simp;done) | (go_simp;rfl));intro g6 hg w2 hbox hb;have GE_g6:=Aside0.mk (show w.heap.size ≤ g6 by rw [hg];exact HB.out.size);have n1_:=Aside0.mk (below_step HB.out hb);clear HB;have HB:=n1_;clear n1_;have BK_g6:=Aside0.mk hbox;clear hbox hb hg))
 go_upto_block 0 with fail
 go_wp2_with fail
 go_loopg [7,8,9] (l0.take 20).length (fun kq v7 v8 v9 w' => ∃ (i : Int) (d : List Int) (t : List S37) (o : List Int) (vd vt vc vx vo : Value),vx = v7 ∧ vo = v8 ∧ v9 = .int .i64 i ∧ Aside0 (0 ≤ i ∧ i + kq = (l0.take 20).length) ∧ Aside0 (once_go1 k a1 ((l0.take 20).drop i.toNat) d t o = some (o8,t9,o9)) ∧ Aside0 (Kd.R (Kd.int .u8) 5 w' w.heap.size (fun k_ => some k_ ≠ (vo : Value).ownBlock ∧ some k_ ≠ (vx : Value).ownBlock) (vd) (d)) ∧ Aside0 (Kd.R k37 37 w' w.heap.size (fun _ => True) (vt) (t)) ∧ Aside0 (Kd.R k37 37 w' w.heap.size (fun _ => True) (vc) ([])) ∧ Aside0 (Kd.R (Kd.int .u8) 5 w' w.heap.size (fun k_ => True ∧ some k_ ≠ (vo : Value).ownBlock) (vx) (d)) ∧ Aside0 (Kd.R (Kd.int .u8) 5 w' w.heap.size (fun k_ => True ∧ some k_ ≠ (vx : Value).ownBlock) (vo) (o)) ∧ Aside0 (w'.heap[g6]? = some (.cells #[.int .u64 0,vd,vt,vc,.bool false,.bool false,.bool false] 27 (0,0))) ∧ Aside0 (Below w.heap.size w w'))
 case atStart => exact ⟨0,[],[],[],_,_,_,_,_,rfl,rfl,rfl,⟨by simp⟩,⟨by simpa using P1.out⟩,⟨Kd.R_nil _ _ _ _ _⟩,⟨Kd.R_nil _ _ _ _ _⟩,⟨Kd.R_nil _ _ _ _ _⟩,⟨Kd.R_nil _ _ _ _ _⟩,⟨Kd.R_nil _ _ _ _ _⟩,BK_g6,HB⟩
 case round =>
 clear BK_g6 HB
 obtain ⟨i,d,t,o,vd,vt,vc,vx,vo,rfl,rfl,rfl,HI,HQ,O_d,O_t,O_c,O_x,O_o,BK_g6,HB⟩:=hrel
 have h20 : (l0.take 20).length = min 20 l0.length:=List.length_take
 by_cases ci : i < ((l0.take 20).length : Int)
 case pos =>
  have q1_ : i < (l0.length : Int):=by omega
  have cb1 : decide (i < (l0.length : Int)) = true:=decide_eq_true q1_
  have cb2 : decide (i < 20) = true:=decide_eq_true (by omega)
  cases gk with
  | zero => exact absurd HI.out.2 (by omega)
  | succ k1 =>
   have p0_ : 0 ≤ i:=HI.out.1
   obtain ⟨ad,cs_,e_,_,hK,hcc⟩:=Kd.C_get HR0.out ([] : List Int) i p0_ q1_
   subst e_
   obtain ⟨Ap,cp,hcs,hlp,hCp⟩:=hK
   subst hcs
   have hcell0 : w.cell? (ad.add (i.toNat * 1 + 0)) = some (.slice Ap (l0.getD i.toNat []).length cp):=hcc 0 _ rfl
   rw [Nat.mul_one,Nat.add_zero] at hcell0
   clear hcc
   have hgo:=HQ.out
   have hd_ : (l0.take 20).drop i.toNat = l0.getD i.toNat [] :: (l0.take 20).drop (i + 1).toNat:=by
    rw [List.drop_eq_getElem_cons (show i.toNat < (l0.take 20).length by omega),show (i + 1).toNat = i.toNat + 1 by omega]
    congr 1
    rw [List.getElem_take,List.getD_eq_getElem?_getD,List.getElem?_eq_getElem (show i.toNat < l0.length by omega)]
    rfl
   rw [hd_,once_go1] at hgo
   generalize l0.getD i.toNat [] = p at hcell0 hlp hCp hgo
   have HCE:=Aside0.mk hcell0
   have HCP:=Aside0.mk hCp
   have HLP:=Aside0.mk hlp
   have qi1 : (0 ≤ i) = True:=eq_true p0_
   have qi2 : (i < (l0.length : Int)) = True:=eq_true q1_
   have hxc_ : wr.cell? (ad.add i.toNat) = some (.slice Ap p.length cp):=(HB.out.cell (World.block_lt_of_cell? w _ HCE.out)).trans HCE.out
   have hw : wrap64 (i + 1) = i + 1:=by have h2:=HI.out;unfold wrap64;omega
   clear hcell0 hCp hlp hd_ HQ q1_ ci p0_
   by_cases c4 : (p.length : Int) > 100
   case pos =>
    rw [if_pos c4] at hgo
    have HG:=Aside0.mk hgo
    have cb3 : decide ((p.length : Int) > 100) = true:=decide_eq_true c4
    have cb4 : decide (100 < (p.length : Int)) = true:=decide_eq_true c4
    have cb5 : decide (100 < p.length) = true:=decide_eq_true (by omega)
    clear hgo c4
    go_wp2
    go_roundg k1
    case measure => omega
    case rel => exact ⟨wrap64 (i + 1),d,t,o,vd,vt,vc,_,_,rfl,rfl,(by first | rfl | simp only [hw]),⟨by have h2:=HI.out;rw [hw];omega⟩,⟨by rw [hw];exact HG.out⟩,O_d,O_t,O_c,O_x,O_o,BK_g6,HB⟩
   case neg =>
    rw [if_neg c4] at hgo
    have cb3 : decide ((p.length : Int) > 100) = false:=decide_eq_false c4
    have cb4 : decide (100 < (p.length : Int)) = false:=decide_eq_false c4
    have cb5 : decide (100 < p.length) = false:=decide_eq_false (by omega)
    obtain ⟨t1,hT,hgo⟩:=Option.bind_eq_some_iff.mp hgo
    by_cases c5 : d.length + p.length ≤ 100000 ∧ t.length < 1000000 ∧ t1.length < 1000000 ∧ o.length < 1000000
    case neg => rw [if_neg c5] at hgo;cases hgo
    rw [if_pos c5] at hgo
    have HW1:=Aside0.mk (once_write (k:=k) hT c5.1 c5.2.1)
    have HL:=Aside0.mk c5
    obtain ⟨dp,hdp⟩ : ∃ y_ : List Int,y_ = d ++ p:=⟨_,rfl⟩
    rw [← hdp] at hgo HW1
    have HDP:=Aside0.mk hdp
    have hln : dp.length = d.length + p.length:=by rw [hdp,List.length_append]
    have HDL:=Aside0.mk hln
    have HGO:=Aside0.mk hgo
    clear hgo c4 c5 hT hdp hln
    obtain ⟨A1,p1,e1_⟩:=Kd.R_slice O_d.out
    subst e1_
    obtain ⟨B1,q1,e2_⟩:=Kd.R_slice O_t.out
    subst e2_
    obtain ⟨C1,r1,e3_⟩:=Kd.R_slice O_c.out
    subst e3_
    go_upto_region 11 with fail
    have n2_:=Aside0.mk (below_drew1 HB.out)
    have n3_:=Aside0.mk (blk_drew BK_g6.out)
    have n4_:=Aside0.mk (Kd.R_drew O_d.out)
    have n5_:=Aside0.mk (Kd.R_drew O_t.out)
    have n6_:=Aside0.mk (Kd.R_drew O_c.out)
    have n7_:=Aside0.mk (Kd.R_drew O_x.out)
    have n8_:=Aside0.mk (Kd.R_drew O_o.out)
    clear HB BK_g6 O_d O_t O_c O_x O_o
    have HB:=n2_
    have BK_g6:=n3_
    have O_d:=n4_
    have O_t:=n5_
    have O_c:=n6_
    have O_x:=n7_
    have O_o:=n8_
    clear n2_ n3_ n4_ n5_ n6_ n7_ n8_
    (try simp only [Act.put,List.setIfInBounds_toArray,List.set_cons_zero,List.set_cons_succ])
    refine start_ (n:=12) (S:=fun w' => w'.cell? ⟨g6,0,none⟩ = some (.int .u64 0) ∧ w'.cell? ⟨g6,1,none⟩ = some (.slice A1 d.length p1) ∧ w'.cell? ⟨g6,2,none⟩ = some (.slice B1 t.length q1) ∧ w'.cell? ⟨g6,3,none⟩ = some (.slice C1 0 r1) ∧ w'.cell? ⟨g6,4,none⟩ = some (.bool false) ∧ w'.cell? ⟨g6,5,none⟩ = some (.bool false) ∧ w'.cell? ⟨g6,6,none⟩ = some (.bool false) ∧ w'.cell? (ad.add i.toNat) = some (.slice Ap p.length cp)) (ds:=[10]) #[false,false,false,false,false,false,false,false,false,false,false,false] (by kernel_rfl) rfl rfl ⟨(blk_cell BK_g6.out 0).trans rfl,(blk_cell BK_g6.out 1).trans rfl,(blk_cell BK_g6.out 2).trans rfl,(blk_cell BK_g6.out 3).trans rfl,(blk_cell BK_g6.out 4).trans rfl,(blk_cell BK_g6.out 5).trans rfl,(blk_cell BK_g6.out 6).trans rfl,(HB.out.cell (World.block_lt_of_cell? w _ HCE.out)).trans HCE.out⟩ (fun hHeld => ?_)
    generalize wr.drew = w5 at HB BK_g6 O_d O_t O_c O_x O_o hHeld ⊢
    refine pure_ (i:=1) (N:=some 42) (v:=?_) (a':=?_) #[false,true,false,false,false,false,false,false,false,false,false,false] rfl rfl (by kernel_rfl) (fun _ _ _ h => h) (Or.inl ⟨by rfl,?_⟩) ?_ ?_
    rotate_left
    ·intro w'
     go_simp
     with_reducible rfl
    rotate_left
    ·simp only [Act.put,List.setIfInBounds_toArray,List.set_cons_zero,List.set_cons_succ,i64_w,i32_w]
     rfl
    refine pure_ (i:=2) (N:=some 43) (v:=?_) (a':=?_) #[false,true,true,false,false,false,false,false,false,false,false,false] rfl rfl (by kernel_rfl) (fun _ _ _ h => h) (Or.inl ⟨by rfl,?_⟩) ?_ ?_
    rotate_left
    ·intro w'
     go_simp
     with_reducible rfl
    rotate_left
    ·simp only [Act.put,List.setIfInBounds_toArray,List.set_cons_zero,List.set_cons_succ,i64_w,i32_w]
     rfl
    refine pure_ (i:=3) (N:=some 44) (v:=?_) (a':=?_) #[false,true,true,true,false,false,false,false,false,false,false,false] rfl rfl (by kernel_rfl) (fun _ _ _ h => h) (Or.inl ⟨by rfl,?_⟩) ?_ ?_
    rotate_left
    ·intro w'
     go_simp
     with_reducible rfl
    rotate_left
    ·simp only [Act.put,List.setIfInBounds_toArray,List.set_cons_zero,List.set_cons_succ,i64_w,i32_w]
     rfl
    refine take_ (i:=0) (N:=some 41) (v:=?_) (a':=?_) #[true,true,true,true,false,false,false,false,false,false,false,false] rfl rfl (by kernel_rfl) (fun _ _ _ h => h) (Or.inl ⟨by rfl,?_⟩) hHeld ?_ ?_
    rotate_left
    ·rintro w' ⟨s0,s1,s2,s3,s4,s5,s6,s7⟩
     go_simp
     with_reducible rfl
    rotate_left
    ·simp only [Act.put,List.setIfInBounds_toArray,List.set_cons_zero,List.set_cons_succ,i64_w,i32_w]
     rfl
    refine take_ (i:=4) (N:=some 45) (v:=?_) (a':=?_) #[true,true,true,true,true,false,false,false,false,false,false,false] rfl rfl (by kernel_rfl) (fun _ _ _ h => h) (Or.inl ⟨by rfl,?_⟩) hHeld ?_ ?_
    rotate_left
    ·rintro w' ⟨s0,s1,s2,s3,s4,s5,s6,s7⟩
     go_simp
     with_reducible rfl
    rotate_left
    ·simp only [Act.put,List.setIfInBounds_toArray,List.set_cons_zero,List.set_cons_succ,i64_w,i32_w]
     rfl
    refine join_ (σ:=Nat × Value × Value × Value) 2 #[true,true,true,true,true,true,true,true,true,true,false,false] (fun s_ => [(46,.tuple #[.agg #[.int .u64 0,s_.2.1,s_.2.2.1,s_.2.2.2,.bool false,.bool false,.bool false],.int .i64 0]),(40,.tuple #[.agg #[.int .u64 0,s_.2.1,s_.2.2.1,s_.2.2.2,.bool false,.bool false,.bool false],.int .i64 0]),(47,.agg #[.int .u64 0,s_.2.1,s_.2.2.1,s_.2.2.2,.bool false,.bool false,.bool false]),(48,.int .i64 0),(10,.pointer (some ⟨s_.1,0,none⟩))]) (fun s_ w_ => w_.heap[g6]? = some (.cells #[.int .u64 0,.slice A1 d.length p1,.slice B1 t.length q1,.slice C1 0 r1,.bool false,.bool false,.bool false] 27 (0,0)) ∧ w_.heap[s_.1]? = some (.cells #[.int .u64 0,.slice none 0 0,.slice none 0 0,.slice none 0 0,.bool false,.bool false,.bool false] 27 (0,0)) ∧ Kd.R (Kd.int .u8) 5 w_ w.heap.size (fun k_ => some k_ ≠ (vo : Value).ownBlock ∧ some k_ ≠ (vx : Value).ownBlock) (s_.2.1) (dp) ∧ Kd.R k37 37 w_ w.heap.size (fun _ => True) (s_.2.2.1) (t1) ∧ Kd.R k37 37 w_ w.heap.size (fun _ => True) (s_.2.2.2) ([]) ∧ Kd.R (Kd.int .u8) 5 w_ w.heap.size (fun k_ => True ∧ some k_ ≠ (vo : Value).ownBlock) (vx) (d) ∧ Kd.R (Kd.int .u8) 5 w_ w.heap.size (fun k_ => True ∧ some k_ ≠ (vx : Value).ownBlock) (vo) (o) ∧ w.heap.size ≤ s_.1 ∧ g6 ≠ s_.1 ∧ Below w.heap.size w w_) ?_ ?_
    rotate_left
    ·intro hCont
     refine two_ (i:=5) (j:=9) (Ni:=some 46) (Nj:=some 10) #[true,true,true,true,true,true,false,false,false,false,false,false] #[true,true,true,true,true,false,false,false,false,true,false,false] rfl rfl rfl rfl (by kernel_rfl) (by decide) (by decide) (fun K hK => ?_) (fun K hK => ?_)
     ·skip
      refine goes_ Try.func9 (by kernel_rfl) rfl #[.agg #[.int .u64 0,.slice A1 d.length p1,.slice B1 t.length q1,.slice C1 0 r1,.bool false,.bool false,.bool false],.slice Ap p.length cp] (by rfl) rfl rfl (by (try simp only [List.map_toArray,List.map_cons,List.map_nil]);first | done | rfl) ?_
      refine (supply_Write.calls k 0 _ _ d _ _ t _ _ [] false false false _ _ p _ _ _ _ _ _ _ _ _ (Kd.R_reads' O_d.out).2.2 (Kd.R_reads' O_d.out).2.1 (Kd.R_reads' O_t.out).2.2 (Kd.R_reads' O_t.out).2.1 (Kd.R_reads' O_c.out).2.2 (Kd.R_reads' O_c.out).2.1 (Kd.C_below HCP.out HB.out) HLP.out HW1.out).mono ?_
      rintro e_ w7 ⟨u1,u2,u3,rfl,ho1,ho2,ho3,hb⟩
      refine ⟨_,rfl,?_⟩
      have HLX:=Kd.R_lt O_x.out
      have HLO:=Kd.R_lt O_o.out
      have O_nd:=Aside0.mk (Kd.R_mono (Kd.R_lower (Kd.R_bound ho1) HB.out.size) (ok':=(fun k_ => some k_ ≠ (vo : Value).ownBlock ∧ some k_ ≠ (vx : Value).ownBlock)) (fun k_ hk_ => ⟨fun he_ => by have h1_:=HLO k_ he_.symm;have h2_:=hk_.2.1;omega,fun he_ => by have h1_:=HLX k_ he_.symm;have h2_:=hk_.2.1;omega⟩))
      have O_nt:=Aside0.mk (Kd.R_lower ho2 HB.out.size)
      have O_nc:=Aside0.mk (Kd.R_lower ho3 HB.out.size)
      clear ho1 ho2 ho3 HLX HLO O_d O_t O_c
      have n9_:=Aside0.mk (below_step HB.out hb)
      have n10_:=Aside0.mk (blk_below BK_g6.out hb)
      have n11_:=Aside0.mk (Kd.R_below O_x.out hb)
      have n12_:=Aside0.mk (Kd.R_below O_o.out hb)
      clear HB BK_g6 O_x O_o
      have HB:=n9_
      have BK_g6:=n10_
      have O_x:=n11_
      have O_o:=n12_
      clear n9_ n10_ n11_ n12_
      clear hb
      refine hK.out _ _ ⟨(blk_cell BK_g6.out 0).trans rfl,(blk_cell BK_g6.out 1).trans rfl,(blk_cell BK_g6.out 2).trans rfl,(blk_cell BK_g6.out 3).trans rfl,(blk_cell BK_g6.out 4).trans rfl,(blk_cell BK_g6.out 5).trans rfl,(blk_cell BK_g6.out 6).trans rfl,(HB.out.cell (World.block_lt_of_cell? w _ HCE.out)).trans HCE.out⟩ (fun hHeld => ?_)
      clear hK K
      refine norm_ (a':=?_) ?_ ?_
      rotate_left
      ·show Act.put _ (some 46) _ = _
       simp only [Act.put,List.setIfInBounds_toArray,List.set_cons_zero,List.set_cons_succ,i64_w,i32_w]
       rfl
      refine pure_ (i:=6) (N:=some 40) (v:=?_) (a':=?_) #[true,true,true,true,true,true,true,false,false,false,false,false] rfl rfl (by kernel_rfl) (fun _ _ _ h => h) (Or.inl ⟨by rfl,?_⟩) ?_ ?_
      rotate_left
      ·intro w'
       go_simp
       with_reducible rfl
      rotate_left
      ·simp only [Act.put,List.setIfInBounds_toArray,List.set_cons_zero,List.set_cons_succ,i64_w,i32_w]
       rfl
      refine pure_ (i:=7) (N:=some 47) (v:=?_) (a':=?_) #[true,true,true,true,true,true,true,true,false,false,false,false] rfl rfl (by kernel_rfl) (fun _ _ _ h => h) (Or.inl ⟨by rfl,?_⟩) ?_ ?_
      rotate_left
      ·intro w'
       go_simp
       with_reducible rfl
      rotate_left
      ·simp only [Act.put,List.setIfInBounds_toArray,List.set_cons_zero,List.set_cons_succ,i64_w,i32_w]
       rfl
      refine pure_ (i:=8) (N:=some 48) (v:=?_) (a':=?_) #[true,true,true,true,true,true,true,true,true,false,false,false] rfl rfl (by kernel_rfl) (fun _ _ _ h => h) (Or.inl ⟨by rfl,?_⟩) ?_ ?_
      rotate_left
      ·intro w'
       go_simp
       with_reducible rfl
      rotate_left
      ·simp only [Act.put,List.setIfInBounds_toArray,List.set_cons_zero,List.set_cons_succ,i64_w,i32_w]
       rfl
      refine one_ (i:=9) (N:=some 10) #[true,true,true,true,true,true,true,true,true,true,false,false] rfl rfl (by kernel_rfl) (by decide) (fun K hK => ?_)
      refine value_ (w1:=?_) (v:=?_) (by rfl) rfl ?_ ?_
      rotate_left 2
      ·go_simp
       constructor
       ·rfl
       ·rfl
      obtain ⟨g10,hg⟩ : ∃ g_ : Nat,g_ = w7.heap.size:=⟨_,rfl⟩
      obtain ⟨w85,hwa⟩ : ∃ w_ : World,w7.alloc (.cells #[.int .u64 0,.slice none 0 0,.slice none 0 0,.slice none 0 0,.bool false,.bool false,.bool false] 27) = w_:=⟨_,rfl⟩
      have hbox : w85.heap[g10]? = some (.cells #[.int .u64 0,.slice none 0 0,.slice none 0 0,.slice none 0 0,.bool false,.bool false,.bool false] 27 (0,0)):=by rw [← hwa,hg];exact blk_new _ _
      have hb : Below w7.heap.size w7 w85:=by rw [← hwa];exact below_alloc (Below.refl _ _) _
      have GE_g10:=Aside0.mk (show w.heap.size ≤ g10 by rw [hg];exact HB.out.size)
      have NB_g6_g10 : g6 ≠ g10:=by rw [hg];exact Nat.ne_of_lt (blk_lt BK_g6.out)
      simp only [← hg,hwa]
      clear hwa
      have n13_:=Aside0.mk (below_step HB.out hb)
      have n14_:=Aside0.mk (blk_below BK_g6.out hb)
      have n15_:=Aside0.mk (Kd.R_below O_x.out hb)
      have n16_:=Aside0.mk (Kd.R_below O_o.out hb)
      have n17_:=Aside0.mk (Kd.R_below O_nd.out hb)
      have n18_:=Aside0.mk (Kd.R_below O_nt.out hb)
      have n19_:=Aside0.mk (Kd.R_below O_nc.out hb)
      clear HB BK_g6 O_x O_o O_nd O_nt O_nc
      have HB:=n13_
      have BK_g6:=n14_
      have O_x:=n15_
      have O_o:=n16_
      have O_nd:=n17_
      have O_nt:=n18_
      have O_nc:=n19_
      clear n13_ n14_ n15_ n16_ n17_ n18_ n19_
      have BK_g10:=Aside0.mk hbox
      clear hbox hb hg
      refine hK.out _ _ ⟨(blk_cell BK_g6.out 0).trans rfl,(blk_cell BK_g6.out 1).trans rfl,(blk_cell BK_g6.out 2).trans rfl,(blk_cell BK_g6.out 3).trans rfl,(blk_cell BK_g6.out 4).trans rfl,(blk_cell BK_g6.out 5).trans rfl,(blk_cell BK_g6.out 6).trans rfl,(HB.out.cell (World.block_lt_of_cell? w _ HCE.out)).trans HCE.out⟩ (fun hHeld => ?_)
      clear hK K
      refine norm_ (a':=?_) ?_ ?_
      rotate_left
      ·show Act.put _ (some 10) _ = _
       simp only [Act.put,List.setIfInBounds_toArray,List.set_cons_zero,List.set_cons_succ,i64_w,i32_w]
       rfl
      exact norm_ (by simp only [putAll,Act.put,List.setIfInBounds_toArray,List.set_cons_zero,List.set_cons_succ]) (hCont (g10,u1,u2,u3) _ ⟨BK_g6.out,BK_g10.out,O_nd.out,O_nt.out,O_nc.out,O_x.out,O_o.out,GE_g10.out,NB_g6_g10,HB.out⟩)
     ·skip
      refine value_ (w1:=?_) (v:=?_) (by rfl) rfl ?_ ?_
      rotate_left 2
      ·go_simp
       constructor
       ·rfl
       ·rfl
      obtain ⟨g10,hg⟩ : ∃ g_ : Nat,g_ = w5.heap.size:=⟨_,rfl⟩
      obtain ⟨w8,hwa⟩ : ∃ w_ : World,w5.alloc (.cells #[.int .u64 0,.slice none 0 0,.slice none 0 0,.slice none 0 0,.bool false,.bool false,.bool false] 27) = w_:=⟨_,rfl⟩
      have hbox : w8.heap[g10]? = some (.cells #[.int .u64 0,.slice none 0 0,.slice none 0 0,.slice none 0 0,.bool false,.bool false,.bool false] 27 (0,0)):=by rw [← hwa,hg];exact blk_new _ _
      have hb : Below w5.heap.size w5 w8:=by rw [← hwa];exact below_alloc (Below.refl _ _) _
      have GE_g10:=Aside0.mk (show w.heap.size ≤ g10 by rw [hg];exact HB.out.size)
      have NB_g6_g10 : g6 ≠ g10:=by rw [hg];exact Nat.ne_of_lt (blk_lt BK_g6.out)
      simp only [← hg,hwa]
      clear hwa
      have n9_:=Aside0.mk (below_step HB.out hb)
      have n10_:=Aside0.mk (blk_below BK_g6.out hb)
      have n11_:=Aside0.mk (Kd.R_below O_d.out hb)
      have n12_:=Aside0.mk (Kd.R_below O_t.out hb)
      have n13_:=Aside0.mk (Kd.R_below O_c.out hb)
      have n14_:=Aside0.mk (Kd.R_below O_x.out hb)
      have n15_:=Aside0.mk (Kd.R_below O_o.out hb)
      clear HB BK_g6 O_d O_t O_c O_x O_o
      have HB:=n9_
      have BK_g6:=n10_
      have O_d:=n11_
      have O_t:=n12_
      have O_c:=n13_
      have O_x:=n14_
      have O_o:=n15_
      clear n9_ n10_ n11_ n12_ n13_ n14_ n15_
      have BK_g10:=Aside0.mk hbox
      clear hbox hb hg
      refine hK.out _ _ ⟨(blk_cell BK_g6.out 0).trans rfl,(blk_cell BK_g6.out 1).trans rfl,(blk_cell BK_g6.out 2).trans rfl,(blk_cell BK_g6.out 3).trans rfl,(blk_cell BK_g6.out 4).trans rfl,(blk_cell BK_g6.out 5).trans rfl,(blk_cell BK_g6.out 6).trans rfl,(HB.out.cell (World.block_lt_of_cell? w _ HCE.out)).trans HCE.out⟩ (fun hHeld => ?_)
      clear hK K
      refine norm_ (a':=?_) ?_ ?_
      rotate_left
      ·show Act.put _ (some 10) _ = _
       simp only [Act.put,List.setIfInBounds_toArray,List.set_cons_zero,List.set_cons_succ,i64_w,i32_w]
       rfl
      refine one_ (i:=5) (N:=some 46) #[true,true,true,true,true,true,false,false,false,true,false,false] rfl rfl (by kernel_rfl) (by decide) (fun K hK => ?_)
      refine goes_ Try.func9 (by kernel_rfl) rfl #[.agg #[.int .u64 0,.slice A1 d.length p1,.slice B1 t.length q1,.slice C1 0 r1,.bool false,.bool false,.bool false],.slice Ap p.length cp] (by rfl) rfl rfl (by (try simp only [List.map_toArray,List.map_cons,List.map_nil]);first | done | rfl) ?_
      refine (supply_Write.calls k 0 _ _ d _ _ t _ _ [] false false false _ _ p _ _ _ _ _ _ _ _ _ (Kd.R_reads' O_d.out).2.2 (Kd.R_reads' O_d.out).2.1 (Kd.R_reads' O_t.out).2.2 (Kd.R_reads' O_t.out).2.1 (Kd.R_reads' O_c.out).2.2 (Kd.R_reads' O_c.out).2.1 (Kd.C_below HCP.out HB.out) HLP.out HW1.out).mono ?_
      rintro e_ w79 ⟨u1,u2,u3,rfl,ho1,ho2,ho3,hb⟩
      refine ⟨_,rfl,?_⟩
      have HLX:=Kd.R_lt O_x.out
      have HLO:=Kd.R_lt O_o.out
      have O_nd:=Aside0.mk (Kd.R_mono (Kd.R_lower (Kd.R_bound ho1) HB.out.size) (ok':=(fun k_ => some k_ ≠ (vo : Value).ownBlock ∧ some k_ ≠ (vx : Value).ownBlock)) (fun k_ hk_ => ⟨fun he_ => by have h1_:=HLO k_ he_.symm;have h2_:=hk_.2.1;omega,fun he_ => by have h1_:=HLX k_ he_.symm;have h2_:=hk_.2.1;omega⟩))
      have O_nt:=Aside0.mk (Kd.R_lower ho2 HB.out.size)
      have O_nc:=Aside0.mk (Kd.R_lower ho3 HB.out.size)
      clear ho1 ho2 ho3 HLX HLO O_d O_t O_c
      have n16_:=Aside0.mk (below_step HB.out hb)
      have n17_:=Aside0.mk (blk_below BK_g6.out hb)
      have n18_:=Aside0.mk (blk_below BK_g10.out hb)
      have n19_:=Aside0.mk (Kd.R_below O_x.out hb)
      have n20_:=Aside0.mk (Kd.R_below O_o.out hb)
      clear HB BK_g6 BK_g10 O_x O_o
      have HB:=n16_
      have BK_g6:=n17_
      have BK_g10:=n18_
      have O_x:=n19_
      have O_o:=n20_
      clear n16_ n17_ n18_ n19_ n20_
      clear hb
      refine hK.out _ _ ⟨(blk_cell BK_g6.out 0).trans rfl,(blk_cell BK_g6.out 1).trans rfl,(blk_cell BK_g6.out 2).trans rfl,(blk_cell BK_g6.out 3).trans rfl,(blk_cell BK_g6.out 4).trans rfl,(blk_cell BK_g6.out 5).trans rfl,(blk_cell BK_g6.out 6).trans rfl,(HB.out.cell (World.block_lt_of_cell? w _ HCE.out)).trans HCE.out⟩ (fun hHeld => ?_)
      clear hK K
      refine norm_ (a':=?_) ?_ ?_
      rotate_left
      ·show Act.put _ (some 46) _ = _
       simp only [Act.put,List.setIfInBounds_toArray,List.set_cons_zero,List.set_cons_succ,i64_w,i32_w]
       rfl
      refine pure_ (i:=6) (N:=some 40) (v:=?_) (a':=?_) #[true,true,true,true,true,true,true,false,false,true,false,false] rfl rfl (by kernel_rfl) (fun _ _ _ h => h) (Or.inl ⟨by rfl,?_⟩) ?_ ?_
      rotate_left
      ·intro w'
       go_simp
       with_reducible rfl
      rotate_left
      ·simp only [Act.put,List.setIfInBounds_toArray,List.set_cons_zero,List.set_cons_succ,i64_w,i32_w]
       rfl
      refine pure_ (i:=7) (N:=some 47) (v:=?_) (a':=?_) #[true,true,true,true,true,true,true,true,false,true,false,false] rfl rfl (by kernel_rfl) (fun _ _ _ h => h) (Or.inl ⟨by rfl,?_⟩) ?_ ?_
      rotate_left
      ·intro w'
       go_simp
       with_reducible rfl
      rotate_left
      ·simp only [Act.put,List.setIfInBounds_toArray,List.set_cons_zero,List.set_cons_succ,i64_w,i32_w]
       rfl
      refine pure_ (i:=8) (N:=some 48) (v:=?_) (a':=?_) #[true,true,true,true,true,true,true,true,true,true,false,false] rfl rfl (by kernel_rfl) (fun _ _ _ h => h) (Or.inl ⟨by rfl,?_⟩) ?_ ?_
      rotate_left
      ·intro w'
       go_simp
       with_reducible rfl
      rotate_left
      ·simp only [Act.put,List.setIfInBounds_toArray,List.set_cons_zero,List.set_cons_succ,i64_w,i32_w]
       rfl
      exact norm_ (by simp only [putAll,Act.put,List.setIfInBounds_toArray,List.set_cons_zero,List.set_cons_succ]) (hCont (g10,u1,u2,u3) _ ⟨BK_g6.out,BK_g10.out,O_nd.out,O_nt.out,O_nc.out,O_x.out,O_o.out,GE_g10.out,NB_g6_g10,HB.out⟩)
    rintro ⟨g10,u1,u2,u3⟩ w9 ⟨f1,f2,f3,f4,f5,f6,f7,f8,f9,f10⟩
    clear BK_g6 O_d O_t O_c O_x O_o HB
    have BK_g6:=Aside0.mk f1
    have BK_g10:=Aside0.mk f2
    have O_nd:=Aside0.mk f3
    have O_nt:=Aside0.mk f4
    have O_nc:=Aside0.mk f5
    have O_x:=Aside0.mk f6
    have O_o:=Aside0.mk f7
    have GE_g10:=Aside0.mk f8
    have HB:=Aside0.mk f10
    have NB_g6_g10:=f9
    have NB_g10_g6:=NB_g6_g10.symm
    clear f1 f2 f3 f4 f5 f6 f7 f8 f9 f10
    have hHeld : w9.cell? ⟨g6,0,none⟩ = some (.int .u64 0) ∧ w9.cell? ⟨g6,1,none⟩ = some (.slice A1 d.length p1) ∧ w9.cell? ⟨g6,2,none⟩ = some (.slice B1 t.length q1) ∧ w9.cell? ⟨g6,3,none⟩ = some (.slice C1 0 r1) ∧ w9.cell? ⟨g6,4,none⟩ = some (.bool false) ∧ w9.cell? ⟨g6,5,none⟩ = some (.bool false) ∧ w9.cell? ⟨g6,6,none⟩ = some (.bool false) ∧ w9.cell? (ad.add i.toNat) = some (.slice Ap p.length cp):=⟨(blk_cell BK_g6.out 0).trans rfl,(blk_cell BK_g6.out 1).trans rfl,(blk_cell BK_g6.out 2).trans rfl,(blk_cell BK_g6.out 3).trans rfl,(blk_cell BK_g6.out 4).trans rfl,(blk_cell BK_g6.out 5).trans rfl,(blk_cell BK_g6.out 6).trans rfl,(HB.out.cell (World.block_lt_of_cell? w _ HCE.out)).trans HCE.out⟩
    skip
    obtain ⟨A2,p2,e1_⟩:=Kd.R_slice O_nd.out
    subst e1_
    obtain ⟨B2,q2,e2_⟩:=Kd.R_slice O_nt.out
    subst e2_
    obtain ⟨C2,r2,e3_⟩:=Kd.R_slice O_nc.out
    subst e3_
    have hx_g10_0 : w9.cell? ⟨g10,0,none⟩ = some (.int .u64 0):=(blk_cell BK_g10.out 0).trans rfl
    have hf_g10_0:=blk_frozen BK_g10.out 0
    have hx_g10_1 : w9.cell? ⟨g10,1,none⟩ = some (.slice none 0 0):=(blk_cell BK_g10.out 1).trans rfl
    have hf_g10_1:=blk_frozen BK_g10.out 1
    have hx_g10_2 : w9.cell? ⟨g10,2,none⟩ = some (.slice none 0 0):=(blk_cell BK_g10.out 2).trans rfl
    have hf_g10_2:=blk_frozen BK_g10.out 2
    have hx_g10_3 : w9.cell? ⟨g10,3,none⟩ = some (.slice none 0 0):=(blk_cell BK_g10.out 3).trans rfl
    have hf_g10_3:=blk_frozen BK_g10.out 3
    have hx_g10_4 : w9.cell? ⟨g10,4,none⟩ = some (.bool false):=(blk_cell BK_g10.out 4).trans rfl
    have hf_g10_4:=blk_frozen BK_g10.out 4
    have hx_g10_5 : w9.cell? ⟨g10,5,none⟩ = some (.bool false):=(blk_cell BK_g10.out 5).trans rfl
    have hf_g10_5:=blk_frozen BK_g10.out 5
    have hx_g10_6 : w9.cell? ⟨g10,6,none⟩ = some (.bool false):=(blk_cell BK_g10.out 6).trans rfl
    have hf_g10_6:=blk_frozen BK_g10.out 6
    refine norm_ (a':=?_) ?_ ?_
    rotate_left
    ·simp only [putAll,Act.put,List.setIfInBounds_toArray,List.set_cons_zero,List.set_cons_succ]
     rfl
    refine last_ (i:=10) (N:=none) #[true,true,true,true,true,true,true,true,true,true,true,false] rfl rfl (by kernel_rfl) (by decide) (fun K hK => ?_)
    refine skip_ (w1:=?_) (by rfl) rfl ?_ ?_
    rotate_left
    ·go_simp
     rfl
    refine hK.out _ _ ?_
    clear hK K
    refine pure_ (i:=11) (N:=some 11) (v:=?_) (a':=?_) #[true,true,true,true,true,true,true,true,true,true,true,true] rfl rfl (by kernel_rfl) (fun _ _ _ h => h) (Or.inl ⟨by rfl,?_⟩) ?_ ?_
    rotate_left
    ·intro w'
     go_simp
     with_reducible rfl
    rotate_left
    ·simp only [Act.put,List.setIfInBounds_toArray,List.set_cons_zero,List.set_cons_succ,i64_w,i32_w]
     rfl
    refine done_ (by kernel_rfl) ?_
    clear hx_g10_0 hf_g10_0 hx_g10_1 hf_g10_1 hx_g10_2 hf_g10_2 hx_g10_3 hf_g10_3 hx_g10_4 hf_g10_4 hx_g10_5 hf_g10_5 hx_g10_6 hf_g10_6
    obtain ⟨w10,hw9_⟩ : ∃ w_ : World,set7 w9 g10 (.int .u64 0) (.slice A2 dp.length p2) (.slice B2 t1.length q2) (.slice C2 0 r2) (.bool false) (.bool false) (.bool false) = w_:=⟨_,rfl⟩
    have n10_:=Aside0.mk (blk7 hw9_ BK_g10.out)
    have n11_:=Aside0.mk (far7 hw9_ NB_g6_g10 BK_g6.out)
    have n12_:=Aside0.mk (R7 hw9_ BK_g10.out rfl (by decide) O_x.out)
    have n13_:=Aside0.mk (R7 hw9_ BK_g10.out rfl (by decide) O_o.out)
    have n14_:=Aside0.mk (R7 hw9_ BK_g10.out rfl (by decide) O_nd.out)
    have n15_:=Aside0.mk (R7 hw9_ BK_g10.out rfl (by decide) O_nt.out)
    have n16_:=Aside0.mk (R7 hw9_ BK_g10.out rfl (by decide) O_nc.out)
    have n17_:=Aside0.mk (below7 hw9_ GE_g10.out HB.out)
    rw [set7_fold,hw9_]
    clear hw9_ BK_g10 BK_g6 O_x O_o O_nd O_nt O_nc HB
    have BK_g10:=n10_
    have BK_g6:=n11_
    have O_x:=n12_
    have O_o:=n13_
    have O_nd:=n14_
    have O_nt:=n15_
    have O_nc:=n16_
    have HB:=n17_
    clear n10_ n11_ n12_ n13_ n14_ n15_ n16_ n17_
    go_upto_region 14 with fail
    have HAL:=Aside0.mk (show (d.length + p.length) * 1 ≤ 140737488355328 by have h_:=HL.out;omega)
    have hxc_ : w10.cell? (ad.add i.toNat) = some (.slice Ap p.length cp):=(HB.out.cell (World.block_lt_of_cell? w _ HCE.out)).trans HCE.out
    go_upto_region 15 with ((with_reducible refine gate_builtin (b:=.append) (xs:=#[.tmp 51,.tmp 55]) rfl ?_);at_builtin;refine Kd.R_append_rows (Kd.int .u8) (w0:=w) w.heap.size rfl (.tmp 51) (.tmp 55) 22 5 (.int .u8 0) 1 rfl Try.underlying22 info5 rfl (by decide) (by omega) vx d p _ _ _ (fun k_ => True ∧ some k_ ≠ (vo : Value).ownBlock) (fun _ => False) rfl rfl ?aO ?aR (fun _ _ h => h) (fun _ h => h.elim) ?aF ?aB ?aS ?aL ?_;(case aR => exact Kd.C_below HCP.out HB.out);(case aB => exact HB.out);(case aF => exact fun k_ hk_ => ⟨trivial,fun he_ => absurd (Kd.R_lt O_o.out k_ he_.symm) (Nat.not_lt.mpr hk_)⟩);(case aO => exact O_x.out);(case aS => exact HB.out.size);(case aL => have h_:=HAL.out;omega);intro vt2 w11 ho hb hg hat;rw [← HDP.out] at ho;clear hxc_;have n18_:=Aside0.mk (hb);have n19_:=Aside0.mk (blk_grown BK_g6.out hg (Kd.R_ne O_x.out BK_g6.out (by decide)));have n20_:=Aside0.mk (blk_grown BK_g10.out hg (Kd.R_ne O_x.out BK_g10.out (by decide)));have n21_:=Aside0.mk (Kd.R_after (v:=vx) (ok:=fun _ => True) O_o.out hg hat);have n22_:=Aside0.mk (Kd.R_after (v:=vx) (ok:=fun k_ => some k_ ≠ (vo : Value).ownBlock) O_nd.out hg hat);have n23_:=Aside0.mk (Kd.R_over' (v:=vx) O_nt.out (Kd.R_typed O_x.out) (by decide) hg);have n24_:=Aside0.mk (Kd.R_over' (v:=vx) O_nc.out (Kd.R_typed O_x.out) (by decide) hg);clear HB BK_g6 BK_g10 O_o O_nd O_nt O_nc;have HB:=n18_;have BK_g6:=n19_;have BK_g10:=n20_;have O_o:=n21_;have O_nd:=n22_;have O_nt:=n23_;have O_nc:=n24_;clear n18_ n19_ n20_ n21_ n22_ n23_ n24_;replace O_x:=Aside0.mk ho;clear ho hb hg hat;have hx_g10_0 : w11.cell? ⟨g10,0,none⟩ = some (.int .u64 0):=(blk_cell BK_g10.out 0).trans rfl;have hf_g10_0:=blk_frozen BK_g10.out 0;have hx_g10_1 : w11.cell? ⟨g10,1,none⟩ = some (.slice A2 dp.length p2):=(blk_cell BK_g10.out 1).trans rfl;have hf_g10_1:=blk_frozen BK_g10.out 1;have hx_g10_2 : w11.cell? ⟨g10,2,none⟩ = some (.slice B2 t1.length q2):=(blk_cell BK_g10.out 2).trans rfl;have hf_g10_2:=blk_frozen BK_g10.out 2;have hx_g10_3 : w11.cell? ⟨g10,3,none⟩ = some (.slice C2 0 r2):=(blk_cell BK_g10.out 3).trans rfl;have hf_g10_3:=blk_frozen BK_g10.out 3;have hx_g10_4 : w11.cell? ⟨g10,4,none⟩ = some (.bool false):=(blk_cell BK_g10.out 4).trans rfl;have hf_g10_4:=blk_frozen BK_g10.out 4;have hx_g10_5 : w11.cell? ⟨g10,5,none⟩ = some (.bool false):=(blk_cell BK_g10.out 5).trans rfl;have hf_g10_5:=blk_frozen BK_g10.out 5;have hx_g10_6 : w11.cell? ⟨g10,6,none⟩ = some (.bool false):=(blk_cell BK_g10.out 6).trans rfl;have hf_g10_6:=blk_frozen BK_g10.out 6)
    clear HAL
    replace O_nd : Aside0 (Kd.R (Kd.int .u8) 5 w11 w.heap.size (fun k_ => some k_ ≠ (vo : Value).ownBlock ∧ some k_ ≠ (vt2 : Value).ownBlock) (.slice A2 dp.length p2) (dp)):=O_nd
    replace O_x : Aside0 (Kd.R (Kd.int .u8) 5 w11 w.heap.size (fun k_ => True ∧ some k_ ≠ (vo : Value).ownBlock) (vt2) (dp)):=O_x
    replace O_o : Aside0 (Kd.R (Kd.int .u8) 5 w11 w.heap.size (fun k_ => True ∧ some k_ ≠ (vt2 : Value).ownBlock) (vo) (o)):=O_o
    have hgo:=HGO.out
    by_cases c6 : t1.length = 0
    case pos =>
     rw [if_pos c6] at hgo
     have HG:=Aside0.mk hgo
     have HC6:=Aside0.mk c6
     clear hgo c6 HGO
     go_upto_region 16 with (first
      | ((with_reducible refine gate_callee (f:=10) rfl ?_);refine goesL_ (some 60) rfl rfl Try.func10 (by kernel_rfl) rfl #[.agg #[.int .u64 0,.slice A2 dp.length p2,.slice B2 t1.length q2,.slice C2 0 r2,.bool false,.bool false,.bool false],.int .i64 a1,.int .u64 1048576] rfl (by (try simp only [List.map_toArray,List.map_cons,List.map_nil]);first | done | rfl) ?_;refine (supply_Next.none0 0 _ _ dp _ _ t1 _ _ [] false false false a1 1048576 _ (Kd.R_reads' O_nd.out).2.2 (Kd.R_reads' O_nd.out).2.1 (Kd.R_reads' O_nt.out).2.2 (Kd.R_reads' O_nt.out).2.1 (Kd.R_reads' O_nc.out).2.2 (Kd.R_reads' O_nc.out).2.1 ⟨by have h_:=HL.out;have h2_:=HDL.out;omega,by have h_:=HL.out;omega,by simp,by decide,by have h_:=HL.out;have h2_:=HDL.out;omega⟩ HC6.out rfl).mono ?_;rintro e_ w12 ⟨rfl,hb⟩;refine ⟨_,rfl,?_⟩;clear hx_g10_0 hf_g10_0 hx_g10_1 hf_g10_1 hx_g10_2 hf_g10_2 hx_g10_3 hf_g10_3 hx_g10_4 hf_g10_4 hx_g10_5 hf_g10_5 hx_g10_6 hf_g10_6;have n25_:=Aside0.mk (below_step HB.out hb);have n26_:=Aside0.mk (blk_below BK_g6.out hb);have n27_:=Aside0.mk (blk_below BK_g10.out hb);have n28_:=Aside0.mk (Kd.R_below O_x.out hb);have n29_:=Aside0.mk (Kd.R_below O_o.out hb);have n30_:=Aside0.mk (Kd.R_below O_nd.out hb);have n31_:=Aside0.mk (Kd.R_below O_nt.out hb);have n32_:=Aside0.mk (Kd.R_below O_nc.out hb);clear HB BK_g6 BK_g10 O_x O_o O_nd O_nt O_nc;have HB:=n25_;have BK_g6:=n26_;have BK_g10:=n27_;have O_x:=n28_;have O_o:=n29_;have O_nd:=n30_;have O_nt:=n31_;have O_nc:=n32_;clear n25_ n26_ n27_ n28_ n29_ n30_ n31_ n32_;clear hb)
      | ((with_reducible refine gate_dst (N:=12) rfl ?_);refine box_event ?hg (N:=12) ?hd (cs:=#[.int .u64 0,.slice none 0 0,.slice none 0 0,.slice none 0 0,.bool false,.bool false,.bool false]) (t:=27) ?hr ?_;(case hd => rfl);(case hg => rfl);(case hr => first | (go_simp;done) | (go_simp;rfl));intro g12 hg w13 hbox hb;have GE_g12:=Aside0.mk (show w.heap.size ≤ g12 by rw [hg];exact HB.out.size);have NB_g6_g12 : g6 ≠ g12:=(by rw [hg];exact Nat.ne_of_lt (blk_lt BK_g6.out));have NB_g12_g6:=NB_g6_g12.symm;have NB_g10_g12 : g10 ≠ g12:=(by rw [hg];exact Nat.ne_of_lt (blk_lt BK_g10.out));have NB_g12_g10:=NB_g10_g12.symm;have n33_:=Aside0.mk (below_step HB.out hb);have n34_:=Aside0.mk (blk_below BK_g6.out hb);have n35_:=Aside0.mk (blk_below BK_g10.out hb);have n36_:=Aside0.mk (Kd.R_below O_x.out hb);have n37_:=Aside0.mk (Kd.R_below O_o.out hb);have n38_:=Aside0.mk (Kd.R_below O_nd.out hb);have n39_:=Aside0.mk (Kd.R_below O_nt.out hb);have n40_:=Aside0.mk (Kd.R_below O_nc.out hb);clear HB BK_g6 BK_g10 O_x O_o O_nd O_nt O_nc;have HB:=n33_;have BK_g6:=n34_;have BK_g10:=n35_;have O_x:=n36_;have O_o:=n37_;have O_nd:=n38_;have O_nt:=n39_;have O_nc:=n40_;clear n33_ n34_ n35_ n36_ n37_ n38_ n39_ n40_;have BK_g12:=Aside0.mk hbox;clear hbox hb hg)
      | ((with_reducible refine gate_dst (N:=13) rfl ?_);refine box_event ?hg (N:=13) ?hd (cs:=#[.int .u64 0,.slice none 0 0,.bool false]) (t:=32) ?hr ?_;(case hd => rfl);(case hg => rfl);(case hr => first | (go_simp;done) | (go_simp;rfl));intro g13 hg w14 hbox hb;have GE_g13:=Aside0.mk (show w.heap.size ≤ g13 by rw [hg];exact HB.out.size);have NB_g6_g13 : g6 ≠ g13:=(by rw [hg];exact Nat.ne_of_lt (blk_lt BK_g6.out));have NB_g13_g6:=NB_g6_g13.symm;have NB_g10_g13 : g10 ≠ g13:=(by rw [hg];exact Nat.ne_of_lt (blk_lt BK_g10.out));have NB_g13_g10:=NB_g10_g13.symm;have NB_g12_g13 : g12 ≠ g13:=(by rw [hg];exact Nat.ne_of_lt (blk_lt BK_g12.out));have NB_g13_g12:=NB_g12_g13.symm;have n41_:=Aside0.mk (below_step HB.out hb);have n42_:=Aside0.mk (blk_below BK_g6.out hb);have n43_:=Aside0.mk (blk_below BK_g10.out hb);have n44_:=Aside0.mk (blk_below BK_g12.out hb);have n45_:=Aside0.mk (Kd.R_below O_x.out hb);have n46_:=Aside0.mk (Kd.R_below O_o.out hb);have n47_:=Aside0.mk (Kd.R_below O_nd.out hb);have n48_:=Aside0.mk (Kd.R_below O_nt.out hb);have n49_:=Aside0.mk (Kd.R_below O_nc.out hb);clear HB BK_g6 BK_g10 BK_g12 O_x O_o O_nd O_nt O_nc;have HB:=n41_;have BK_g6:=n42_;have BK_g10:=n43_;have BK_g12:=n44_;have O_x:=n45_;have O_o:=n46_;have O_nd:=n47_;have O_nt:=n48_;have O_nc:=n49_;clear n41_ n42_ n43_ n44_ n45_ n46_ n47_ n48_ n49_;have BK_g13:=Aside0.mk hbox;clear hbox hb hg;have hx_g12_0 : w14.cell? ⟨g12,0,none⟩ = some (.int .u64 0):=(blk_cell BK_g12.out 0).trans rfl;have hf_g12_0:=blk_frozen BK_g12.out 0;have hx_g12_1 : w14.cell? ⟨g12,1,none⟩ = some (.slice none 0 0):=(blk_cell BK_g12.out 1).trans rfl;have hf_g12_1:=blk_frozen BK_g12.out 1;have hx_g12_2 : w14.cell? ⟨g12,2,none⟩ = some (.slice none 0 0):=(blk_cell BK_g12.out 2).trans rfl;have hf_g12_2:=blk_frozen BK_g12.out 2;have hx_g12_3 : w14.cell? ⟨g12,3,none⟩ = some (.slice none 0 0):=(blk_cell BK_g12.out 3).trans rfl;have hf_g12_3:=blk_frozen BK_g12.out 3;have hx_g12_4 : w14.cell? ⟨g12,4,none⟩ = some (.bool false):=(blk_cell BK_g12.out 4).trans rfl;have hf_g12_4:=blk_frozen BK_g12.out 4;have hx_g12_5 : w14.cell? ⟨g12,5,none⟩ = some (.bool false):=(blk_cell BK_g12.out 5).trans rfl;have hf_g12_5:=blk_frozen BK_g12.out 5;have hx_g12_6 : w14.cell? ⟨g12,6,none⟩ = some (.bool false):=(blk_cell BK_g12.out 6).trans rfl;have hf_g12_6:=blk_frozen BK_g12.out 6;have hx_g13_0 : w14.cell? ⟨g13,0,none⟩ = some (.int .u64 0):=(blk_cell BK_g13.out 0).trans rfl;have hf_g13_0:=blk_frozen BK_g13.out 0;have hx_g13_1 : w14.cell? ⟨g13,1,none⟩ = some (.slice none 0 0):=(blk_cell BK_g13.out 1).trans rfl;have hf_g13_1:=blk_frozen BK_g13.out 1;have hx_g13_2 : w14.cell? ⟨g13,2,none⟩ = some (.bool false):=(blk_cell BK_g13.out 2).trans rfl;have hf_g13_2:=blk_frozen BK_g13.out 2))
     clear hx_g12_0 hf_g12_0 hx_g12_1 hf_g12_1 hx_g12_2 hf_g12_2 hx_g12_3 hf_g12_3 hx_g12_4 hf_g12_4 hx_g12_5 hf_g12_5 hx_g12_6 hf_g12_6 hx_g13_0 hf_g13_0 hx_g13_1 hf_g13_1 hx_g13_2 hf_g13_2
     obtain ⟨w15,hw50_⟩ : ∃ w_ : World,set7 w14 g12 (.int .u64 0) (.slice A2 dp.length p2) (.slice B2 t1.length q2) (.slice C2 0 r2) (.bool false) (.bool false) (.bool false) = w_:=⟨_,rfl⟩
     have n51_:=Aside0.mk (blk7 hw50_ BK_g12.out)
     have n52_:=Aside0.mk (far7 hw50_ NB_g6_g12 BK_g6.out)
     have n53_:=Aside0.mk (far7 hw50_ NB_g10_g12 BK_g10.out)
     have n54_:=Aside0.mk (far7 hw50_ NB_g13_g12 BK_g13.out)
     have n55_:=Aside0.mk (R7 hw50_ BK_g12.out rfl (by decide) O_x.out)
     have n56_:=Aside0.mk (R7 hw50_ BK_g12.out rfl (by decide) O_o.out)
     have n57_:=Aside0.mk (R7 hw50_ BK_g12.out rfl (by decide) O_nd.out)
     have n58_:=Aside0.mk (R7 hw50_ BK_g12.out rfl (by decide) O_nt.out)
     have n59_:=Aside0.mk (R7 hw50_ BK_g12.out rfl (by decide) O_nc.out)
     have n60_:=Aside0.mk (below7 hw50_ GE_g12.out HB.out)
     rw [set7_fold,hw50_]
     clear hw50_ BK_g12 BK_g6 BK_g10 BK_g13 O_x O_o O_nd O_nt O_nc HB
     have BK_g12:=n51_
     have BK_g6:=n52_
     have BK_g10:=n53_
     have BK_g13:=n54_
     have O_x:=n55_
     have O_o:=n56_
     have O_nd:=n57_
     have O_nt:=n58_
     have O_nc:=n59_
     have HB:=n60_
     clear n51_ n52_ n53_ n54_ n55_ n56_ n57_ n58_ n59_ n60_
     obtain ⟨w16,hw61_⟩ : ∃ w_ : World,set3 w15 g13 (.int .u64 0) (.slice none 0 0) (.bool false) = w_:=⟨_,rfl⟩
     have n62_:=Aside0.mk (blk3 hw61_ BK_g13.out)
     have n63_:=Aside0.mk (far3 hw61_ NB_g6_g13 BK_g6.out)
     have n64_:=Aside0.mk (far3 hw61_ NB_g10_g13 BK_g10.out)
     have n65_:=Aside0.mk (far3 hw61_ NB_g12_g13 BK_g12.out)
     have n66_:=Aside0.mk (R3 hw61_ BK_g13.out rfl (by decide) O_x.out)
     have n67_:=Aside0.mk (R3 hw61_ BK_g13.out rfl (by decide) O_o.out)
     have n68_:=Aside0.mk (R3 hw61_ BK_g13.out rfl (by decide) O_nd.out)
     have n69_:=Aside0.mk (R3 hw61_ BK_g13.out rfl (by decide) O_nt.out)
     have n70_:=Aside0.mk (R3 hw61_ BK_g13.out rfl (by decide) O_nc.out)
     have n71_:=Aside0.mk (below3 hw61_ GE_g13.out HB.out)
     rw [set3_fold,hw61_]
     clear hw61_ BK_g13 BK_g6 BK_g10 BK_g12 O_x O_o O_nd O_nt O_nc HB
     have BK_g13:=n62_
     have BK_g6:=n63_
     have BK_g10:=n64_
     have BK_g12:=n65_
     have O_x:=n66_
     have O_o:=n67_
     have O_nd:=n68_
     have O_nt:=n69_
     have O_nc:=n70_
     have HB:=n71_
     clear n62_ n63_ n64_ n65_ n66_ n67_ n68_ n69_ n70_ n71_
     have hx_g12_0 : w16.cell? ⟨g12,0,none⟩ = some (.int .u64 0):=(blk_cell BK_g12.out 0).trans rfl
     have hf_g12_0:=blk_frozen BK_g12.out 0
     have hx_g12_1 : w16.cell? ⟨g12,1,none⟩ = some (.slice A2 dp.length p2):=(blk_cell BK_g12.out 1).trans rfl
     have hf_g12_1:=blk_frozen BK_g12.out 1
     have hx_g12_2 : w16.cell? ⟨g12,2,none⟩ = some (.slice B2 t1.length q2):=(blk_cell BK_g12.out 2).trans rfl
     have hf_g12_2:=blk_frozen BK_g12.out 2
     have hx_g12_3 : w16.cell? ⟨g12,3,none⟩ = some (.slice C2 0 r2):=(blk_cell BK_g12.out 3).trans rfl
     have hf_g12_3:=blk_frozen BK_g12.out 3
     have hx_g12_4 : w16.cell? ⟨g12,4,none⟩ = some (.bool false):=(blk_cell BK_g12.out 4).trans rfl
     have hf_g12_4:=blk_frozen BK_g12.out 4
     have hx_g12_5 : w16.cell? ⟨g12,5,none⟩ = some (.bool false):=(blk_cell BK_g12.out 5).trans rfl
     have hf_g12_5:=blk_frozen BK_g12.out 5
     have hx_g12_6 : w16.cell? ⟨g12,6,none⟩ = some (.bool false):=(blk_cell BK_g12.out 6).trans rfl
     have hf_g12_6:=blk_frozen BK_g12.out 6
     have hx_g13_0 : w16.cell? ⟨g13,0,none⟩ = some (.int .u64 0):=(blk_cell BK_g13.out 0).trans rfl
     have hf_g13_0:=blk_frozen BK_g13.out 0
     have hx_g13_1 : w16.cell? ⟨g13,1,none⟩ = some (.slice none 0 0):=(blk_cell BK_g13.out 1).trans rfl
     have hf_g13_1:=blk_frozen BK_g13.out 1
     have hx_g13_2 : w16.cell? ⟨g13,2,none⟩ = some (.bool false):=(blk_cell BK_g13.out 2).trans rfl
     have hf_g13_2:=blk_frozen BK_g13.out 2
     have hx_g6_0 : w16.cell? ⟨g6,0,none⟩ = some (.int .u64 0):=(blk_cell BK_g6.out 0).trans rfl
     have hf_g6_0:=blk_frozen BK_g6.out 0
     have hx_g6_1 : w16.cell? ⟨g6,1,none⟩ = some (.slice A1 d.length p1):=(blk_cell BK_g6.out 1).trans rfl
     have hf_g6_1:=blk_frozen BK_g6.out 1
     have hx_g6_2 : w16.cell? ⟨g6,2,none⟩ = some (.slice B1 t.length q1):=(blk_cell BK_g6.out 2).trans rfl
     have hf_g6_2:=blk_frozen BK_g6.out 2
     have hx_g6_3 : w16.cell? ⟨g6,3,none⟩ = some (.slice C1 0 r1):=(blk_cell BK_g6.out 3).trans rfl
     have hf_g6_3:=blk_frozen BK_g6.out 3
     have hx_g6_4 : w16.cell? ⟨g6,4,none⟩ = some (.bool false):=(blk_cell BK_g6.out 4).trans rfl
     have hf_g6_4:=blk_frozen BK_g6.out 4
     have hx_g6_5 : w16.cell? ⟨g6,5,none⟩ = some (.bool false):=(blk_cell BK_g6.out 5).trans rfl
     have hf_g6_5:=blk_frozen BK_g6.out 5
     have hx_g6_6 : w16.cell? ⟨g6,6,none⟩ = some (.bool false):=(blk_cell BK_g6.out 6).trans rfl
     have hf_g6_6:=blk_frozen BK_g6.out 6
     go_upto_region 17 with fail
     clear hx_g12_0 hf_g12_0 hx_g12_1 hf_g12_1 hx_g12_2 hf_g12_2 hx_g12_3 hf_g12_3 hx_g12_4 hf_g12_4 hx_g12_5 hf_g12_5 hx_g12_6 hf_g12_6 hx_g13_0 hf_g13_0 hx_g13_1 hf_g13_1 hx_g13_2 hf_g13_2 hx_g6_0 hf_g6_0 hx_g6_1 hf_g6_1 hx_g6_2 hf_g6_2 hx_g6_3 hf_g6_3 hx_g6_4 hf_g6_4 hx_g6_5 hf_g6_5 hx_g6_6 hf_g6_6
     obtain ⟨w17,hw72_⟩ : ∃ w_ : World,set7 w16 g6 (.int .u64 0) (.slice A2 dp.length p2) (.slice B2 t1.length q2) (.slice C2 0 r2) (.bool false) (.bool false) (.bool false) = w_:=⟨_,rfl⟩
     have n73_:=Aside0.mk (blk7 hw72_ BK_g6.out)
     have n74_:=Aside0.mk (far7 hw72_ NB_g10_g6 BK_g10.out)
     have n75_:=Aside0.mk (far7 hw72_ NB_g12_g6 BK_g12.out)
     have n76_:=Aside0.mk (far7 hw72_ NB_g13_g6 BK_g13.out)
     have n77_:=Aside0.mk (R7 hw72_ BK_g6.out rfl (by decide) O_x.out)
     have n78_:=Aside0.mk (R7 hw72_ BK_g6.out rfl (by decide) O_o.out)
     have n79_:=Aside0.mk (R7 hw72_ BK_g6.out rfl (by decide) O_nd.out)
     have n80_:=Aside0.mk (R7 hw72_ BK_g6.out rfl (by decide) O_nt.out)
     have n81_:=Aside0.mk (R7 hw72_ BK_g6.out rfl (by decide) O_nc.out)
     have n82_:=Aside0.mk (below7 hw72_ GE_g6.out HB.out)
     rw [set7_fold,hw72_]
     clear hw72_ BK_g6 BK_g10 BK_g12 BK_g13 O_x O_o O_nd O_nt O_nc HB
     have BK_g6:=n73_
     have BK_g10:=n74_
     have BK_g12:=n75_
     have BK_g13:=n76_
     have O_x:=n77_
     have O_o:=n78_
     have O_nd:=n79_
     have O_nt:=n80_
     have O_nc:=n81_
     have HB:=n82_
     clear n73_ n74_ n75_ n76_ n77_ n78_ n79_ n80_ n81_ n82_
     have hx_g13_0 : w17.cell? ⟨g13,0,none⟩ = some (.int .u64 0):=(blk_cell BK_g13.out 0).trans rfl
     have hf_g13_0:=blk_frozen BK_g13.out 0
     have hx_g13_1 : w17.cell? ⟨g13,1,none⟩ = some (.slice none 0 0):=(blk_cell BK_g13.out 1).trans rfl
     have hf_g13_1:=blk_frozen BK_g13.out 1
     have hx_g13_2 : w17.cell? ⟨g13,2,none⟩ = some (.bool false):=(blk_cell BK_g13.out 2).trans rfl
     have hf_g13_2:=blk_frozen BK_g13.out 2
     go_upto_region 19 with fail
     have HAL:=Aside0.mk (show (o.length + ([] : List Int).length) * 1 ≤ 140737488355328 by have h_:=HL.out;simp;omega)
     go_wp2_with ((with_reducible refine gate_builtin (b:=.append) (xs:=#[.tmp 78,.tmp 80]) rfl ?_);at_builtin;refine Kd.R_append_rows (Kd.int .u8) (w0:=w) w.heap.size rfl (.tmp 78) (.tmp 80) 22 5 (.int .u8 0) 1 rfl Try.underlying22 info5 rfl (by decide) (by omega) vo o ([] : List Int) _ _ _ (fun k_ => True ∧ some k_ ≠ (vt2 : Value).ownBlock) (fun _ => False) rfl rfl ?aO ?aR (fun _ _ h => h) (fun _ h => h.elim) ?aF ?aB ?aS ?aL ?_;(case aR => exact (show Kd.C (Kd.int .u8) w17 none 0 ([] : List Int) from Kd.C_nil (Kd.int .u8) _));(case aB => exact HB.out);(case aF => exact fun k_ hk_ => ⟨trivial,fun he_ => absurd (Kd.R_lt O_x.out k_ he_.symm) (Nat.not_lt.mpr hk_)⟩);(case aO => exact O_o.out);(case aS => exact HB.out.size);(case aL => have h_:=HAL.out;omega);intro vo2 w18 ho hb hg hat;rw [List.append_nil] at ho;clear hx_g13_0 hf_g13_0 hx_g13_1 hf_g13_1 hx_g13_2 hf_g13_2;have n83_:=Aside0.mk (hb);have n84_:=Aside0.mk (blk_grown BK_g6.out hg (Kd.R_ne O_o.out BK_g6.out (by decide)));have n85_:=Aside0.mk (blk_grown BK_g10.out hg (Kd.R_ne O_o.out BK_g10.out (by decide)));have n86_:=Aside0.mk (blk_grown BK_g12.out hg (Kd.R_ne O_o.out BK_g12.out (by decide)));have n87_:=Aside0.mk (blk_grown BK_g13.out hg (Kd.R_ne O_o.out BK_g13.out (by decide)));have n88_:=Aside0.mk (Kd.R_after (v:=vo) (ok:=fun _ => True) O_x.out hg hat);have n89_:=Aside0.mk (Kd.R_mono (Kd.R_after (v:=vo) (ok:=fun k_ => some k_ ≠ (vt2 : Value).ownBlock) (Kd.R_mono O_nd.out (fun _ h => ⟨h.2,h.1⟩)) hg hat) (ok':=(fun k_ => some k_ ≠ (vo2 : Value).ownBlock ∧ some k_ ≠ (vt2 : Value).ownBlock)) (fun _ h => ⟨h.2,h.1⟩));have n90_:=Aside0.mk (Kd.R_over' (v:=vo) O_nt.out (Kd.R_typed O_o.out) (by decide) hg);have n91_:=Aside0.mk (Kd.R_over' (v:=vo) O_nc.out (Kd.R_typed O_o.out) (by decide) hg);clear HB BK_g6 BK_g10 BK_g12 BK_g13 O_x O_nd O_nt O_nc;have HB:=n83_;have BK_g6:=n84_;have BK_g10:=n85_;have BK_g12:=n86_;have BK_g13:=n87_;have O_x:=n88_;have O_nd:=n89_;have O_nt:=n90_;have O_nc:=n91_;clear n83_ n84_ n85_ n86_ n87_ n88_ n89_ n90_ n91_;replace O_o:=Aside0.mk ho;clear ho hb hg hat)
     go_roundg k1
     case measure => omega
     case rel => exact ⟨wrap64 (i + 1),dp,t1,o,_,_,_,_,_,rfl,rfl,(by first | rfl | simp only [hw]),⟨by have h2:=HI.out;rw [hw];omega⟩,⟨by rw [hw];exact HG.out⟩,O_nd,O_nt,O_nc,O_x,O_o,BK_g6,HB⟩
    case neg =>
     obtain ⟨Ao,po,eo⟩:=Kd.R_slice O_o.out
     subst eo
     rw [if_neg c6] at hgo
     obtain ⟨x,hx,hgo⟩:=Option.bind_eq_some_iff.mp hgo
     unfold once_tell at hx
     obtain ⟨off,hoff⟩ : ∃ y_ : Int,(rd_T37 t1 0).f0 = y_:=⟨_,rfl⟩
     obtain ⟨tq,htq⟩ : ∃ y_ : Int,mn (rd_T37 t1 0).f1 1048576 = y_:=⟨_,rfl⟩
     rw [hoff,htq] at hx
     obtain ⟨mz,hmz⟩ : ∃ y_ : Int,IntKind.u64.wrap (off + IntKind.u64.wrap a1) = y_:=⟨_,rfl⟩
     rw [hmz] at hx
     obtain ⟨tz,htz⟩ : ∃ y_ : Int,mn tq mz = y_:=⟨_,rfl⟩
     rw [htz] at hx
     by_cases c7 : off < tq ∧ 0 ≤ off ∧ off ≤ tz ∧ tz ≤ (dp.length : Int)
     case neg => rw [if_neg c7] at hx;cases hx
     rw [if_pos c7] at hx
     obtain ⟨t2,hC,hx⟩:=Option.bind_eq_some_iff.mp hx
     obtain rfl:=Option.some.inj hx
     dsimp only at hgo
     obtain ⟨m,hm⟩ : ∃ y_ : List Int,y_ = (dp.take tz.toNat).drop off.toNat:=⟨_,rfl⟩
     rw [← hm] at hgo
     by_cases c8 : off = (o.length : Int)
     case neg => rw [if_neg c8] at hgo;cases hgo
     rw [if_pos c8] at hgo
     have hml : m.length ≤ dp.length:=by rw [hm,List.length_drop,List.length_take];omega
     have HG:=Aside0.mk hgo
     have HN:=Aside0.mk (show 0 < t1.length by omega)
     have H7:=Aside0.mk c7
     have H8:=Aside0.mk c8
     have HOFF:=Aside0.mk hoff
     have HTQ:=Aside0.mk htq
     have HMZ:=Aside0.mk hmz
     have HTZ:=Aside0.mk htz
     have HC_:=Aside0.mk hC
     have HM:=Aside0.mk hm
     have HML:=Aside0.mk hml
     clear hgo HGO c6 c7 c8 hoff htq hmz htz hC hm hml
     go_upto_region 16 with (first
      | ((with_reducible refine gate_callee (f:=10) rfl ?_);refine goesL_ (some 60) rfl rfl Try.func10 (by kernel_rfl) rfl #[.agg #[.int .u64 0,.slice A2 dp.length p2,.slice B2 t1.length q2,.slice C2 0 r2,.bool false,.bool false,.bool false],.int .i64 a1,.int .u64 1048576] rfl (by (try simp only [List.map_toArray,List.map_cons,List.map_nil]);first | done | rfl) ?_;refine (supply_Next.part_ 0 _ _ dp _ _ t1 _ _ [] false false false a1 1048576 off tz off.toNat tz.toNat false t2 m tq mz _ (Kd.R_reads' O_nd.out).2.2 (Kd.R_reads' O_nd.out).2.1 (Kd.R_reads' O_nt.out).2.2 (Kd.R_reads' O_nt.out).2.1 (Kd.R_reads' O_nc.out).2.2 (Kd.R_reads' O_nc.out).2.1 ⟨by have h_:=HL.out;have h2_:=HDL.out;omega,by have h_:=HL.out;omega,by simp,by decide,by have h_:=HL.out;have h2_:=HDL.out;omega⟩ HN.out HA1.out HOFF.out HTQ.out H7.out.1 HMZ.out HTZ.out HM.out HC_.out (by have h_:=H7.out;omega) (by have h_:=H7.out;omega) (by have h_:=H7.out;omega) (by have h_:=H7.out;omega) rfl).mono ?_;rintro e_ w12 ⟨u4,u5,u6,u7,rfl,ho1,ho2,ho3,ho4,hb⟩;refine ⟨_,rfl,?_⟩;have HLX:=Kd.R_lt O_x.out;have HLO:=Kd.R_lt O_o.out;have O_yd:=Aside0.mk (Kd.R_mono (Kd.R_lower (Kd.R_bound (show Kd.R (Kd.int .u8) 5 w12 w11.heap.size _ u4 dp from ho1)) HB.out.size) (ok':=(fun k_ => some k_ ≠ ((.slice Ao o.length po) : Value).ownBlock ∧ some k_ ≠ (vt2 : Value).ownBlock)) (fun k_ hk_ => ⟨fun he_ => by have h1_:=HLO k_ he_.symm;have h2_:=hk_.2.1;omega,fun he_ => by have h1_:=HLX k_ he_.symm;have h2_:=hk_.2.1;omega⟩));have O_yt:=Aside0.mk (Kd.R_mono (Kd.R_lower ho2 HB.out.size) (ok':=fun _ => True) (fun _ _ => trivial));have O_yc:=Aside0.mk (Kd.R_mono (Kd.R_lower ho3 HB.out.size) (ok':=fun _ => True) (fun _ _ => trivial));have O_m:=Aside0.mk (Kd.R_lower ho4 HB.out.size);clear ho1 ho2 ho3 ho4 HLX HLO;clear O_nd O_nt O_nc;clear hx_g10_0 hf_g10_0 hx_g10_1 hf_g10_1 hx_g10_2 hf_g10_2 hx_g10_3 hf_g10_3 hx_g10_4 hf_g10_4 hx_g10_5 hf_g10_5 hx_g10_6 hf_g10_6;have n25_:=Aside0.mk (below_step HB.out hb);have n26_:=Aside0.mk (blk_below BK_g6.out hb);have n27_:=Aside0.mk (blk_below BK_g10.out hb);have n28_:=Aside0.mk (Kd.R_below O_x.out hb);have n29_:=Aside0.mk (Kd.R_below O_o.out hb);clear HB BK_g6 BK_g10 O_x O_o;have HB:=n25_;have BK_g6:=n26_;have BK_g10:=n27_;have O_x:=n28_;have O_o:=n29_;clear n25_ n26_ n27_ n28_ n29_;clear hb;obtain ⟨A3,p3,e1_⟩:=Kd.R_slice O_yd.out;subst e1_;obtain ⟨B3,q3,e2_⟩:=Kd.R_slice O_yt.out;subst e2_;obtain ⟨C3,r3,e3_⟩:=Kd.R_slice O_yc.out;subst e3_;obtain ⟨M3,n3,e4_⟩:=Kd.R_slice O_m.out;subst e4_)
      | ((with_reducible refine gate_dst (N:=12) rfl ?_);refine box_event ?hg (N:=12) ?hd (cs:=#[.int .u64 0,.slice none 0 0,.slice none 0 0,.slice none 0 0,.bool false,.bool false,.bool false]) (t:=27) ?hr ?_;(case hd => rfl);(case hg => rfl);(case hr => first | (go_simp;done) | (go_simp;rfl));intro g12 hg w13 hbox hb;have GE_g12:=Aside0.mk (show w.heap.size ≤ g12 by rw [hg];exact HB.out.size);have NB_g6_g12 : g6 ≠ g12:=(by rw [hg];exact Nat.ne_of_lt (blk_lt BK_g6.out));have NB_g12_g6:=NB_g6_g12.symm;have NB_g10_g12 : g10 ≠ g12:=(by rw [hg];exact Nat.ne_of_lt (blk_lt BK_g10.out));have NB_g12_g10:=NB_g10_g12.symm;have n30_:=Aside0.mk (below_step HB.out hb);have n31_:=Aside0.mk (blk_below BK_g6.out hb);have n32_:=Aside0.mk (blk_below BK_g10.out hb);have n33_:=Aside0.mk (Kd.R_below O_x.out hb);have n34_:=Aside0.mk (Kd.R_below O_o.out hb);have n35_:=Aside0.mk (Kd.R_below O_yd.out hb);have n36_:=Aside0.mk (Kd.R_below O_yt.out hb);have n37_:=Aside0.mk (Kd.R_below O_yc.out hb);have n38_:=Aside0.mk (Kd.R_below O_m.out hb);clear HB BK_g6 BK_g10 O_x O_o O_yd O_yt O_yc O_m;have HB:=n30_;have BK_g6:=n31_;have BK_g10:=n32_;have O_x:=n33_;have O_o:=n34_;have O_yd:=n35_;have O_yt:=n36_;have O_yc:=n37_;have O_m:=n38_;clear n30_ n31_ n32_ n33_ n34_ n35_ n36_ n37_ n38_;have BK_g12:=Aside0.mk hbox;clear hbox hb hg)
      | ((with_reducible refine gate_dst (N:=13) rfl ?_);refine box_event ?hg (N:=13) ?hd (cs:=#[.int .u64 0,.slice none 0 0,.bool false]) (t:=32) ?hr ?_;(case hd => rfl);(case hg => rfl);(case hr => first | (go_simp;done) | (go_simp;rfl));intro g13 hg w14 hbox hb;have GE_g13:=Aside0.mk (show w.heap.size ≤ g13 by rw [hg];exact HB.out.size);have NB_g6_g13 : g6 ≠ g13:=(by rw [hg];exact Nat.ne_of_lt (blk_lt BK_g6.out));have NB_g13_g6:=NB_g6_g13.symm;have NB_g10_g13 : g10 ≠ g13:=(by rw [hg];exact Nat.ne_of_lt (blk_lt BK_g10.out));have NB_g13_g10:=NB_g10_g13.symm;have NB_g12_g13 : g12 ≠ g13:=(by rw [hg];exact Nat.ne_of_lt (blk_lt BK_g12.out));have NB_g13_g12:=NB_g12_g13.symm;have n39_:=Aside0.mk (below_step HB.out hb);have n40_:=Aside0.mk (blk_below BK_g6.out hb);have n41_:=Aside0.mk (blk_below BK_g10.out hb);have n42_:=Aside0.mk (blk_below BK_g12.out hb);have n43_:=Aside0.mk (Kd.R_below O_x.out hb);have n44_:=Aside0.mk (Kd.R_below O_o.out hb);have n45_:=Aside0.mk (Kd.R_below O_yd.out hb);have n46_:=Aside0.mk (Kd.R_below O_yt.out hb);have n47_:=Aside0.mk (Kd.R_below O_yc.out hb);have n48_:=Aside0.mk (Kd.R_below O_m.out hb);clear HB BK_g6 BK_g10 BK_g12 O_x O_o O_yd O_yt O_yc O_m;have HB:=n39_;have BK_g6:=n40_;have BK_g10:=n41_;have BK_g12:=n42_;have O_x:=n43_;have O_o:=n44_;have O_yd:=n45_;have O_yt:=n46_;have O_yc:=n47_;have O_m:=n48_;clear n39_ n40_ n41_ n42_ n43_ n44_ n45_ n46_ n47_ n48_;have BK_g13:=Aside0.mk hbox;clear hbox hb hg;have hx_g12_0 : w14.cell? ⟨g12,0,none⟩ = some (.int .u64 0):=(blk_cell BK_g12.out 0).trans rfl;have hf_g12_0:=blk_frozen BK_g12.out 0;have hx_g12_1 : w14.cell? ⟨g12,1,none⟩ = some (.slice none 0 0):=(blk_cell BK_g12.out 1).trans rfl;have hf_g12_1:=blk_frozen BK_g12.out 1;have hx_g12_2 : w14.cell? ⟨g12,2,none⟩ = some (.slice none 0 0):=(blk_cell BK_g12.out 2).trans rfl;have hf_g12_2:=blk_frozen BK_g12.out 2;have hx_g12_3 : w14.cell? ⟨g12,3,none⟩ = some (.slice none 0 0):=(blk_cell BK_g12.out 3).trans rfl;have hf_g12_3:=blk_frozen BK_g12.out 3;have hx_g12_4 : w14.cell? ⟨g12,4,none⟩ = some (.bool false):=(blk_cell BK_g12.out 4).trans rfl;have hf_g12_4:=blk_frozen BK_g12.out 4;have hx_g12_5 : w14.cell? ⟨g12,5,none⟩ = some (.bool false):=(blk_cell BK_g12.out 5).trans rfl;have hf_g12_5:=blk_frozen BK_g12.out 5;have hx_g12_6 : w14.cell? ⟨g12,6,none⟩ = some (.bool false):=(blk_cell BK_g12.out 6).trans rfl;have hf_g12_6:=blk_frozen BK_g12.out 6;have hx_g13_0 : w14.cell? ⟨g13,0,none⟩ = some (.int .u64 0):=(blk_cell BK_g13.out 0).trans rfl;have hf_g13_0:=blk_frozen BK_g13.out 0;have hx_g13_1 : w14.cell? ⟨g13,1,none⟩ = some (.slice none 0 0):=(blk_cell BK_g13.out 1).trans rfl;have hf_g13_1:=blk_frozen BK_g13.out 1;have hx_g13_2 : w14.cell? ⟨g13,2,none⟩ = some (.bool false):=(blk_cell BK_g13.out 2).trans rfl;have hf_g13_2:=blk_frozen BK_g13.out 2))
     clear hx_g12_0 hf_g12_0 hx_g12_1 hf_g12_1 hx_g12_2 hf_g12_2 hx_g12_3 hf_g12_3 hx_g12_4 hf_g12_4 hx_g12_5 hf_g12_5 hx_g12_6 hf_g12_6 hx_g13_0 hf_g13_0 hx_g13_1 hf_g13_1 hx_g13_2 hf_g13_2
     obtain ⟨w15,hw49_⟩ : ∃ w_ : World,set7 w14 g12 (.int .u64 0) (.slice A3 dp.length p3) (.slice B3 t2.length q3) (.slice C3 0 r3) (.bool false) (.bool false) (.bool false) = w_:=⟨_,rfl⟩
     have n50_:=Aside0.mk (blk7 hw49_ BK_g12.out)
     have n51_:=Aside0.mk (far7 hw49_ NB_g6_g12 BK_g6.out)
     have n52_:=Aside0.mk (far7 hw49_ NB_g10_g12 BK_g10.out)
     have n53_:=Aside0.mk (far7 hw49_ NB_g13_g12 BK_g13.out)
     have n54_:=Aside0.mk (R7 hw49_ BK_g12.out rfl (by decide) O_x.out)
     have n55_:=Aside0.mk (R7 hw49_ BK_g12.out rfl (by decide) O_o.out)
     have n56_:=Aside0.mk (R7 hw49_ BK_g12.out rfl (by decide) O_yd.out)
     have n57_:=Aside0.mk (R7 hw49_ BK_g12.out rfl (by decide) O_yt.out)
     have n58_:=Aside0.mk (R7 hw49_ BK_g12.out rfl (by decide) O_yc.out)
     have n59_:=Aside0.mk (R7 hw49_ BK_g12.out rfl (by decide) O_m.out)
     have n60_:=Aside0.mk (below7 hw49_ GE_g12.out HB.out)
     rw [set7_fold,hw49_]
     clear hw49_ BK_g12 BK_g6 BK_g10 BK_g13 O_x O_o O_yd O_yt O_yc O_m HB
     have BK_g12:=n50_
     have BK_g6:=n51_
     have BK_g10:=n52_
     have BK_g13:=n53_
     have O_x:=n54_
     have O_o:=n55_
     have O_yd:=n56_
     have O_yt:=n57_
     have O_yc:=n58_
     have O_m:=n59_
     have HB:=n60_
     clear n50_ n51_ n52_ n53_ n54_ n55_ n56_ n57_ n58_ n59_ n60_
     obtain ⟨w16,hw61_⟩ : ∃ w_ : World,set3 w15 g13 (.int .u64 off) (.slice M3 m.length n3) (.bool false) = w_:=⟨_,rfl⟩
     have n62_:=Aside0.mk (blk3 hw61_ BK_g13.out)
     have n63_:=Aside0.mk (far3 hw61_ NB_g6_g13 BK_g6.out)
     have n64_:=Aside0.mk (far3 hw61_ NB_g10_g13 BK_g10.out)
     have n65_:=Aside0.mk (far3 hw61_ NB_g12_g13 BK_g12.out)
     have n66_:=Aside0.mk (R3 hw61_ BK_g13.out rfl (by decide) O_x.out)
     have n67_:=Aside0.mk (R3 hw61_ BK_g13.out rfl (by decide) O_o.out)
     have n68_:=Aside0.mk (R3 hw61_ BK_g13.out rfl (by decide) O_yd.out)
     have n69_:=Aside0.mk (R3 hw61_ BK_g13.out rfl (by decide) O_yt.out)
     have n70_:=Aside0.mk (R3 hw61_ BK_g13.out rfl (by decide) O_yc.out)
     have n71_:=Aside0.mk (R3 hw61_ BK_g13.out rfl (by decide) O_m.out)
     have n72_:=Aside0.mk (below3 hw61_ GE_g13.out HB.out)
     rw [set3_fold,hw61_]
     clear hw61_ BK_g13 BK_g6 BK_g10 BK_g12 O_x O_o O_yd O_yt O_yc O_m HB
     have BK_g13:=n62_
     have BK_g6:=n63_
     have BK_g10:=n64_
     have BK_g12:=n65_
     have O_x:=n66_
     have O_o:=n67_
     have O_yd:=n68_
     have O_yt:=n69_
     have O_yc:=n70_
     have O_m:=n71_
     have HB:=n72_
     clear n62_ n63_ n64_ n65_ n66_ n67_ n68_ n69_ n70_ n71_ n72_
     have hx_g12_0 : w16.cell? ⟨g12,0,none⟩ = some (.int .u64 0):=(blk_cell BK_g12.out 0).trans rfl
     have hf_g12_0:=blk_frozen BK_g12.out 0
     have hx_g12_1 : w16.cell? ⟨g12,1,none⟩ = some (.slice A3 dp.length p3):=(blk_cell BK_g12.out 1).trans rfl
     have hf_g12_1:=blk_frozen BK_g12.out 1
     have hx_g12_2 : w16.cell? ⟨g12,2,none⟩ = some (.slice B3 t2.length q3):=(blk_cell BK_g12.out 2).trans rfl
     have hf_g12_2:=blk_frozen BK_g12.out 2
     have hx_g12_3 : w16.cell? ⟨g12,3,none⟩ = some (.slice C3 0 r3):=(blk_cell BK_g12.out 3).trans rfl
     have hf_g12_3:=blk_frozen BK_g12.out 3
     have hx_g12_4 : w16.cell? ⟨g12,4,none⟩ = some (.bool false):=(blk_cell BK_g12.out 4).trans rfl
     have hf_g12_4:=blk_frozen BK_g12.out 4
     have hx_g12_5 : w16.cell? ⟨g12,5,none⟩ = some (.bool false):=(blk_cell BK_g12.out 5).trans rfl
     have hf_g12_5:=blk_frozen BK_g12.out 5
     have hx_g12_6 : w16.cell? ⟨g12,6,none⟩ = some (.bool false):=(blk_cell BK_g12.out 6).trans rfl
     have hf_g12_6:=blk_frozen BK_g12.out 6
     have hx_g13_0 : w16.cell? ⟨g13,0,none⟩ = some (.int .u64 off):=(blk_cell BK_g13.out 0).trans rfl
     have hf_g13_0:=blk_frozen BK_g13.out 0
     have hx_g13_1 : w16.cell? ⟨g13,1,none⟩ = some (.slice M3 m.length n3):=(blk_cell BK_g13.out 1).trans rfl
     have hf_g13_1:=blk_frozen BK_g13.out 1
     have hx_g13_2 : w16.cell? ⟨g13,2,none⟩ = some (.bool false):=(blk_cell BK_g13.out 2).trans rfl
     have hf_g13_2:=blk_frozen BK_g13.out 2
     have hx_g6_0 : w16.cell? ⟨g6,0,none⟩ = some (.int .u64 0):=(blk_cell BK_g6.out 0).trans rfl
     have hf_g6_0:=blk_frozen BK_g6.out 0
     have hx_g6_1 : w16.cell? ⟨g6,1,none⟩ = some (.slice A1 d.length p1):=(blk_cell BK_g6.out 1).trans rfl
     have hf_g6_1:=blk_frozen BK_g6.out 1
     have hx_g6_2 : w16.cell? ⟨g6,2,none⟩ = some (.slice B1 t.length q1):=(blk_cell BK_g6.out 2).trans rfl
     have hf_g6_2:=blk_frozen BK_g6.out 2
     have hx_g6_3 : w16.cell? ⟨g6,3,none⟩ = some (.slice C1 0 r1):=(blk_cell BK_g6.out 3).trans rfl
     have hf_g6_3:=blk_frozen BK_g6.out 3
     have hx_g6_4 : w16.cell? ⟨g6,4,none⟩ = some (.bool false):=(blk_cell BK_g6.out 4).trans rfl
     have hf_g6_4:=blk_frozen BK_g6.out 4
     have hx_g6_5 : w16.cell? ⟨g6,5,none⟩ = some (.bool false):=(blk_cell BK_g6.out 5).trans rfl
     have hf_g6_5:=blk_frozen BK_g6.out 5
     have hx_g6_6 : w16.cell? ⟨g6,6,none⟩ = some (.bool false):=(blk_cell BK_g6.out 6).trans rfl
     have hf_g6_6:=blk_frozen BK_g6.out 6
     go_upto_region 17 with fail
     clear hx_g12_0 hf_g12_0 hx_g12_1 hf_g12_1 hx_g12_2 hf_g12_2 hx_g12_3 hf_g12_3 hx_g12_4 hf_g12_4 hx_g12_5 hf_g12_5 hx_g12_6 hf_g12_6 hx_g13_0 hf_g13_0 hx_g13_1 hf_g13_1 hx_g13_2 hf_g13_2 hx_g6_0 hf_g6_0 hx_g6_1 hf_g6_1 hx_g6_2 hf_g6_2 hx_g6_3 hf_g6_3 hx_g6_4 hf_g6_4 hx_g6_5 hf_g6_5 hx_g6_6 hf_g6_6
     obtain ⟨w17,hw73_⟩ : ∃ w_ : World,set7 w16 g6 (.int .u64 0) (.slice A3 dp.length p3) (.slice B3 t2.length q3) (.slice C3 0 r3) (.bool false) (.bool false) (.bool false) = w_:=⟨_,rfl⟩
     have n74_:=Aside0.mk (blk7 hw73_ BK_g6.out)
     have n75_:=Aside0.mk (far7 hw73_ NB_g10_g6 BK_g10.out)
     have n76_:=Aside0.mk (far7 hw73_ NB_g12_g6 BK_g12.out)
     have n77_:=Aside0.mk (far7 hw73_ NB_g13_g6 BK_g13.out)
     have n78_:=Aside0.mk (R7 hw73_ BK_g6.out rfl (by decide) O_x.out)
     have n79_:=Aside0.mk (R7 hw73_ BK_g6.out rfl (by decide) O_o.out)
     have n80_:=Aside0.mk (R7 hw73_ BK_g6.out rfl (by decide) O_yd.out)
     have n81_:=Aside0.mk (R7 hw73_ BK_g6.out rfl (by decide) O_yt.out)
     have n82_:=Aside0.mk (R7 hw73_ BK_g6.out rfl (by decide) O_yc.out)
     have n83_:=Aside0.mk (R7 hw73_ BK_g6.out rfl (by decide) O_m.out)
     have n84_:=Aside0.mk (below7 hw73_ GE_g6.out HB.out)
     rw [set7_fold,hw73_]
     clear hw73_ BK_g6 BK_g10 BK_g12 BK_g13 O_x O_o O_yd O_yt O_yc O_m HB
     have BK_g6:=n74_
     have BK_g10:=n75_
     have BK_g12:=n76_
     have BK_g13:=n77_
     have O_x:=n78_
     have O_o:=n79_
     have O_yd:=n80_
     have O_yt:=n81_
     have O_yc:=n82_
     have O_m:=n83_
     have HB:=n84_
     clear n74_ n75_ n76_ n77_ n78_ n79_ n80_ n81_ n82_ n83_ n84_
     have hx_g13_0 : w17.cell? ⟨g13,0,none⟩ = some (.int .u64 off):=(blk_cell BK_g13.out 0).trans rfl
     have hf_g13_0:=blk_frozen BK_g13.out 0
     have hx_g13_1 : w17.cell? ⟨g13,1,none⟩ = some (.slice M3 m.length n3):=(blk_cell BK_g13.out 1).trans rfl
     have hf_g13_1:=blk_frozen BK_g13.out 1
     have hx_g13_2 : w17.cell? ⟨g13,2,none⟩ = some (.bool false):=(blk_cell BK_g13.out 2).trans rfl
     have hf_g13_2:=blk_frozen BK_g13.out 2
     have ko : IntKind.u64.wrap (o.length : Int) = off:=by rw [H8.out,IntKind.wrap_u64];have h_:=HL.out;omega
     have kp : (off != off) = false:=by simp
     go_upto_region 19 with fail
     have HAL:=Aside0.mk (show (o.length + m.length) * 1 ≤ 140737488355328 by have h_:=HL.out;have h2_:=HML.out;have h3_:=HDL.out;omega)
     go_wp2_with ((with_reducible refine gate_builtin (b:=.append) (xs:=#[.tmp 78,.tmp 80]) rfl ?_);at_builtin;refine Kd.R_append_rows (Kd.int .u8) (w0:=w) w.heap.size rfl (.tmp 78) (.tmp 80) 22 5 (.int .u8 0) 1 rfl Try.underlying22 info5 rfl (by decide) (by omega) (.slice Ao o.length po) o m _ _ _ (fun k_ => True ∧ some k_ ≠ (vt2 : Value).ownBlock) (fun _ => False) rfl rfl ?aO ?aR (fun _ _ h => h) (fun _ h => h.elim) ?aF ?aB ?aS ?aL ?_;(case aR => exact (Kd.R_reads' O_m.out).2.2);(case aB => exact HB.out);(case aF => exact fun k_ hk_ => ⟨trivial,fun he_ => absurd (Kd.R_lt O_x.out k_ he_.symm) (Nat.not_lt.mpr hk_)⟩);(case aO => exact O_o.out);(case aS => exact HB.out.size);(case aL => have h_:=HAL.out;omega);intro vo2 w18 ho hb hg hat;clear O_m;clear hx_g13_0 hf_g13_0 hx_g13_1 hf_g13_1 hx_g13_2 hf_g13_2;have n85_:=Aside0.mk (hb);have n86_:=Aside0.mk (blk_grown BK_g6.out hg (Kd.R_ne O_o.out BK_g6.out (by decide)));have n87_:=Aside0.mk (blk_grown BK_g10.out hg (Kd.R_ne O_o.out BK_g10.out (by decide)));have n88_:=Aside0.mk (blk_grown BK_g12.out hg (Kd.R_ne O_o.out BK_g12.out (by decide)));have n89_:=Aside0.mk (blk_grown BK_g13.out hg (Kd.R_ne O_o.out BK_g13.out (by decide)));have n90_:=Aside0.mk (Kd.R_after (v:=(.slice Ao o.length po)) (ok:=fun _ => True) O_x.out hg hat);have n91_:=Aside0.mk (Kd.R_mono (Kd.R_after (v:=(.slice Ao o.length po)) (ok:=fun k_ => some k_ ≠ (vt2 : Value).ownBlock) (Kd.R_mono O_yd.out (fun _ h => ⟨h.2,h.1⟩)) hg hat) (ok':=(fun k_ => some k_ ≠ (vo2 : Value).ownBlock ∧ some k_ ≠ (vt2 : Value).ownBlock)) (fun _ h => ⟨h.2,h.1⟩));have n92_:=Aside0.mk (Kd.R_over' (v:=(.slice Ao o.length po)) O_yt.out (Kd.R_typed O_o.out) (by decide) hg);have n93_:=Aside0.mk (Kd.R_over' (v:=(.slice Ao o.length po)) O_yc.out (Kd.R_typed O_o.out) (by decide) hg);clear HB BK_g6 BK_g10 BK_g12 BK_g13 O_x O_yd O_yt O_yc;have HB:=n85_;have BK_g6:=n86_;have BK_g10:=n87_;have BK_g12:=n88_;have BK_g13:=n89_;have O_x:=n90_;have O_yd:=n91_;have O_yt:=n92_;have O_yc:=n93_;clear n85_ n86_ n87_ n88_ n89_ n90_ n91_ n92_ n93_;replace O_o:=Aside0.mk ho;clear ho hb hg hat)
     go_roundg k1
     case measure => omega
     case rel => exact ⟨wrap64 (i + 1),dp,t2,o ++ m,_,_,_,_,_,rfl,rfl,(by first | rfl | simp only [hw]),⟨by have h2:=HI.out;rw [hw];omega⟩,⟨by rw [hw];exact HG.out⟩,O_yd,O_yt,O_yc,O_x,O_o,BK_g6,HB⟩
 case neg =>
  have hq:=HQ.out
  rw [List.drop_eq_nil_of_le (by have h2:=HI.out;omega),once_go1] at hq
  simp only [Option.some.injEq,Prod.mk.injEq] at hq
  obtain ⟨rfl,rfl,rfl⟩:=hq
  by_cases ce : i < (l0.length : Int)
  case pos =>
   have cb1 : decide (i < (l0.length : Int)) = true:=decide_eq_true ce
   have cb2 : decide (i < 20) = false:=decide_eq_false (by have h2:=HI.out;omega)
   clear ce ci HI HQ h20
   obtain ⟨Ax,px,ex_⟩:=Kd.R_slice O_x.out
   subst ex_
   obtain ⟨A1,p1,e1_⟩:=Kd.R_slice O_d.out
   subst e1_
   obtain ⟨B1,q1,e2_⟩:=Kd.R_slice O_t.out
   subst e2_
   obtain ⟨C1,r1,e3_⟩:=Kd.R_slice O_c.out
   subst e3_
   have PF:=Aside0.mk (show supply_Finish.f 0 d t [] false false false = some (0,d,t,[],true,true,false) by unfold supply_Finish.f;rw [if_pos ⟨by have h_:=HD9.out;omega,by have h_:=HD9.out;omega,by simp⟩];rfl)
   have hx_g6_0 : wr.cell? ⟨g6,0,none⟩ = some (.int .u64 0):=(blk_cell BK_g6.out 0).trans rfl
   have hf_g6_0:=blk_frozen BK_g6.out 0
   have hx_g6_1 : wr.cell? ⟨g6,1,none⟩ = some (.slice A1 d.length p1):=(blk_cell BK_g6.out 1).trans rfl
   have hf_g6_1:=blk_frozen BK_g6.out 1
   have hx_g6_2 : wr.cell? ⟨g6,2,none⟩ = some (.slice B1 t.length q1):=(blk_cell BK_g6.out 2).trans rfl
   have hf_g6_2:=blk_frozen BK_g6.out 2
   have hx_g6_3 : wr.cell? ⟨g6,3,none⟩ = some (.slice C1 0 r1):=(blk_cell BK_g6.out 3).trans rfl
   have hf_g6_3:=blk_frozen BK_g6.out 3
   have hx_g6_4 : wr.cell? ⟨g6,4,none⟩ = some (.bool false):=(blk_cell BK_g6.out 4).trans rfl
   have hf_g6_4:=blk_frozen BK_g6.out 4
   have hx_g6_5 : wr.cell? ⟨g6,5,none⟩ = some (.bool false):=(blk_cell BK_g6.out 5).trans rfl
   have hf_g6_5:=blk_frozen BK_g6.out 5
   have hx_g6_6 : wr.cell? ⟨g6,6,none⟩ = some (.bool false):=(blk_cell BK_g6.out 6).trans rfl
   have hf_g6_6:=blk_frozen BK_g6.out 6
   go_upto_region 20 with fail
   go_upto_region 21 with ((with_reducible refine gate_callee (f:=14) rfl ?_);refine goesL_ (some 83) rfl rfl Try.func14 (by kernel_rfl) rfl #[.agg #[.int .u64 0,.slice A1 d.length p1,.slice B1 t.length q1,.slice C1 0 r1,.bool false,.bool false,.bool false]] rfl (by (try simp only [List.map_toArray,List.map_cons,List.map_nil]);first | done | rfl) ?_;refine (supply_Finish.calls 0 _ _ d _ _ t _ _ [] false false false _ _ _ _ _ _ _ _ (Kd.R_reads' O_d.out).2.2 (Kd.R_reads' O_d.out).2.1 (Kd.R_reads' O_t.out).2.2 (Kd.R_reads' O_t.out).2.1 (Kd.R_reads' O_c.out).2.2 (Kd.R_reads' O_c.out).2.1 PF.out).mono ?_;rintro e_ w21 ⟨u1,u2,u3,rfl,ho1,ho2,ho3,hb⟩;refine ⟨_,rfl,?_⟩;have HLX:=Kd.R_lt O_x.out;have HLO:=Kd.R_lt O_o.out;have O_fd:=Aside0.mk (Kd.R_mono (Kd.R_lower (Kd.R_bound ho1) HB.out.size) (ok':=(fun k_ => some k_ ≠ (vo : Value).ownBlock ∧ some k_ ≠ ((.slice Ax d.length px) : Value).ownBlock)) (fun k_ hk_ => ⟨fun he_ => by have h1_:=HLO k_ he_.symm;have h2_:=hk_.2.1;omega,fun he_ => by have h1_:=HLX k_ he_.symm;have h2_:=hk_.2.1;omega⟩));have O_ft:=Aside0.mk (Kd.R_mono (Kd.R_lower ho2 HB.out.size) (ok':=fun _ => True) (fun _ _ => trivial));have O_fc:=Aside0.mk (Kd.R_mono (Kd.R_lower ho3 HB.out.size) (ok':=fun _ => True) (fun _ _ => trivial));clear ho1 ho2 ho3 HLX HLO O_d O_t O_c;clear hx_g6_0 hf_g6_0 hx_g6_1 hf_g6_1 hx_g6_2 hf_g6_2 hx_g6_3 hf_g6_3 hx_g6_4 hf_g6_4 hx_g6_5 hf_g6_5 hx_g6_6 hf_g6_6;have n2_:=Aside0.mk (below_step HB.out hb);have n3_:=Aside0.mk (blk_below BK_g6.out hb);have n4_:=Aside0.mk (Kd.R_below O_x.out hb);have n5_:=Aside0.mk (Kd.R_below O_o.out hb);clear HB BK_g6 O_x O_o;have HB:=n2_;have BK_g6:=n3_;have O_x:=n4_;have O_o:=n5_;clear n2_ n3_ n4_ n5_;clear hb;obtain ⟨A2,p2,e1_⟩:=Kd.R_slice O_fd.out;subst e1_;obtain ⟨B2,q2,e2_⟩:=Kd.R_slice O_ft.out;subst e2_;obtain ⟨C2,r2,e3_⟩:=Kd.R_slice O_fc.out;subst e3_;have hx_g6_0 : w21.cell? ⟨g6,0,none⟩ = some (.int .u64 0):=(blk_cell BK_g6.out 0).trans rfl;have hf_g6_0:=blk_frozen BK_g6.out 0;have hx_g6_1 : w21.cell? ⟨g6,1,none⟩ = some (.slice A1 d.length p1):=(blk_cell BK_g6.out 1).trans rfl;have hf_g6_1:=blk_frozen BK_g6.out 1;have hx_g6_2 : w21.cell? ⟨g6,2,none⟩ = some (.slice B1 t.length q1):=(blk_cell BK_g6.out 2).trans rfl;have hf_g6_2:=blk_frozen BK_g6.out 2;have hx_g6_3 : w21.cell? ⟨g6,3,none⟩ = some (.slice C1 0 r1):=(blk_cell BK_g6.out 3).trans rfl;have hf_g6_3:=blk_frozen BK_g6.out 3;have hx_g6_4 : w21.cell? ⟨g6,4,none⟩ = some (.bool false):=(blk_cell BK_g6.out 4).trans rfl;have hf_g6_4:=blk_frozen BK_g6.out 4;have hx_g6_5 : w21.cell? ⟨g6,5,none⟩ = some (.bool false):=(blk_cell BK_g6.out 5).trans rfl;have hf_g6_5:=blk_frozen BK_g6.out 5;have hx_g6_6 : w21.cell? ⟨g6,6,none⟩ = some (.bool false):=(blk_cell BK_g6.out 6).trans rfl;have hf_g6_6:=blk_frozen BK_g6.out 6)
   clear hx_g6_0 hf_g6_0 hx_g6_1 hf_g6_1 hx_g6_2 hf_g6_2 hx_g6_3 hf_g6_3 hx_g6_4 hf_g6_4 hx_g6_5 hf_g6_5 hx_g6_6 hf_g6_6
   obtain ⟨w22,hw6_⟩ : ∃ w_ : World,set7 w21 g6 (.int .u64 0) (.slice A2 d.length p2) (.slice B2 t.length q2) (.slice C2 0 r2) (.bool true) (.bool true) (.bool false) = w_:=⟨_,rfl⟩
   have n7_:=Aside0.mk (blk7 hw6_ BK_g6.out)
   have n8_:=Aside0.mk (R7 hw6_ BK_g6.out rfl (by decide) O_x.out)
   have n9_:=Aside0.mk (R7 hw6_ BK_g6.out rfl (by decide) O_o.out)
   have n10_:=Aside0.mk (R7 hw6_ BK_g6.out rfl (by decide) O_fd.out)
   have n11_:=Aside0.mk (R7 hw6_ BK_g6.out rfl (by decide) O_ft.out)
   have n12_:=Aside0.mk (R7 hw6_ BK_g6.out rfl (by decide) O_fc.out)
   have n13_:=Aside0.mk (below7 hw6_ GE_g6.out HB.out)
   rw [set7_fold,hw6_]
   clear hw6_ BK_g6 O_x O_o O_fd O_ft O_fc HB
   have BK_g6:=n7_
   have O_x:=n8_
   have O_o:=n9_
   have O_fd:=n10_
   have O_ft:=n11_
   have O_fc:=n12_
   have HB:=n13_
   clear n7_ n8_ n9_ n10_ n11_ n12_ n13_
   go_upto_block 2 with fail
   go_wp2_with fail
   go_loopg [8,15,16] 2100 (fun kq v8 v15 v16 w' => ∃ (i : Int) (t3 : List S37) (ftb finb : Bool) (o3 : List Int) (vd vt vc vo : Value),vo = v8 ∧ v15 = .bool finb ∧ v16 = .int .i64 i ∧ Aside0 (0 ≤ i ∧ i + kq = 2100) ∧ Aside0 (once_go2 a1 d kq t3 ftb o3 finb = some (t8,ft8,d,true)) ∧ Aside0 (Kd.R (Kd.int .u8) 5 w' w.heap.size (fun k_ => some k_ ≠ (vo : Value).ownBlock ∧ some k_ ≠ ((.slice Ax d.length px) : Value).ownBlock) (vd) (d)) ∧ Aside0 (Kd.R k37 37 w' w.heap.size (fun _ => True) (vt) (t3)) ∧ Aside0 (Kd.R k37 37 w' w.heap.size (fun _ => True) (vc) ([])) ∧ Aside0 (Kd.R (Kd.int .u8) 5 w' w.heap.size (fun k_ => True ∧ some k_ ≠ (vo : Value).ownBlock) ((.slice Ax d.length px)) (d)) ∧ Aside0 (Kd.R (Kd.int .u8) 5 w' w.heap.size (fun k_ => True ∧ some k_ ≠ ((.slice Ax d.length px) : Value).ownBlock) (vo) (o3)) ∧ Aside0 (w'.heap[g6]? = some (.cells #[.int .u64 0,vd,vt,vc,.bool true,.bool ftb,.bool false] 27 (0,0))) ∧ Aside0 (Below w.heap.size w w'))
   case atStart => exact ⟨0,t,true,false,o,_,_,_,_,rfl,rfl,rfl,⟨by simp⟩,P2,O_fd,O_ft,O_fc,O_x,O_o,BK_g6,HB⟩
   case round =>
   clear O_fd O_ft O_fc O_x O_o BK_g6 HB PF
   obtain ⟨i2,t3,ftb,finb,o3,vd,vt,vc,vo,rfl,rfl,rfl,HI2,HQ2,O_d,O_t,O_c,O_x,O_o,BK_g6,HB⟩:=hrel
   obtain ⟨A1,p1,e1_⟩:=Kd.R_slice O_d.out
   subst e1_
   obtain ⟨B1,q1,e2_⟩:=Kd.R_slice O_t.out
   subst e2_
   obtain ⟨C1,r1,e3_⟩:=Kd.R_slice O_c.out
   subst e3_
   obtain ⟨Ao,po,eo⟩:=Kd.R_slice O_o.out
   subst eo
   cases gk with
   | zero =>
    have hi_ : i2 = 2100:=by have h_:=HI2.out;omega
    have kt : decide (i2 < 2100) = false:=decide_eq_false (by omega)
    have hq:=HQ2.out
    rw [once_go2] at hq
    simp only [Option.some.injEq,Prod.mk.injEq] at hq
    obtain ⟨rfl,rfl,h3_,rfl⟩:=hq
    have h4_:=h3_.symm
    subst h4_
    clear hi_ HQ2 HI2
    have hcv1:=Kd.C_string (P:=Try.prog) (A:=Ao) (c:=po) Try.underlying22 Try.underlying5 Try.underlying9 (Kd.R_reads' O_o.out).2.2
    have hcv2:=Kd.C_string (P:=Try.prog) (A:=Ax) (c:=px) Try.underlying22 Try.underlying5 Try.underlying9 (Kd.R_reads' O_x.out).2.2
    have sq : ((strOfNums d).toList == (strOfNums d).toList) = true:=beq_self_eq_true _
    have kl : IntKind.u64.wrap (d.length : Int) = (d.length : Int):=by rw [IntKind.wrap_u64];have h_:=HD9.out;omega
    have ke : ((d.length : Int) == (d.length : Int)) = true:=beq_self_eq_true _
    have hx_g6_0 : wr.cell? ⟨g6,0,none⟩ = some (.int .u64 0):=(blk_cell BK_g6.out 0).trans rfl
    have hf_g6_0:=blk_frozen BK_g6.out 0
    have hx_g6_1 : wr.cell? ⟨g6,1,none⟩ = some (.slice A1 d.length p1):=(blk_cell BK_g6.out 1).trans rfl
    have hf_g6_1:=blk_frozen BK_g6.out 1
    have hx_g6_2 : wr.cell? ⟨g6,2,none⟩ = some (.slice B1 t3.length q1):=(blk_cell BK_g6.out 2).trans rfl
    have hf_g6_2:=blk_frozen BK_g6.out 2
    have hx_g6_3 : wr.cell? ⟨g6,3,none⟩ = some (.slice C1 0 r1):=(blk_cell BK_g6.out 3).trans rfl
    have hf_g6_3:=blk_frozen BK_g6.out 3
    have hx_g6_4 : wr.cell? ⟨g6,4,none⟩ = some (.bool true):=(blk_cell BK_g6.out 4).trans rfl
    have hf_g6_4:=blk_frozen BK_g6.out 4
    have hx_g6_5 : wr.cell? ⟨g6,5,none⟩ = some (.bool ftb):=(blk_cell BK_g6.out 5).trans rfl
    have hf_g6_5:=blk_frozen BK_g6.out 5
    have hx_g6_6 : wr.cell? ⟨g6,6,none⟩ = some (.bool false):=(blk_cell BK_g6.out 6).trans rfl
    have hf_g6_6:=blk_frozen BK_g6.out 6
    go_wp2_with (first | (go_at_call 15;refine (supply_End.calls 0 _ _ d _ _ t3 _ _ [] true ftb false (d.length : Int) _ (Kd.R_reads' O_d.out).2.2 (Kd.R_reads' O_d.out).2.1 (Kd.R_reads' O_t.out).2.2 (Kd.R_reads' O_t.out).2.1 (Kd.R_reads' O_c.out).2.2 (Kd.R_reads' O_c.out).2.1 (by unfold supply_End.f;rw [kl,Int.zero_add,kl])).mono ?_;rintro e_ w41 ⟨rfl,hb⟩;clear hx_g6_0 hf_g6_0 hx_g6_1 hf_g6_1 hx_g6_2 hf_g6_2 hx_g6_3 hf_g6_3 hx_g6_4 hf_g6_4 hx_g6_5 hf_g6_5 hx_g6_6 hf_g6_6;have HB2:=Aside0.mk (below_step HB.out hb);have m0_:=Aside0.mk (blk_below BK_g6.out hb);have m1_:=Aside0.mk (Kd.R_below O_d.out hb);have m2_:=Aside0.mk (Kd.R_below O_t.out hb);have m3_:=Aside0.mk (Kd.R_below O_c.out hb);clear HB BK_g6 O_d O_t O_c;have HB:=HB2;have BK_g6:=m0_;have O_d:=m1_;have O_t:=m2_;have O_c:=m3_;clear HB2 m0_ m1_ m2_ m3_ hb;have hx_g6_0 : w41.cell? ⟨g6,0,none⟩ = some (.int .u64 0):=(blk_cell BK_g6.out 0).trans rfl;have hf_g6_0:=blk_frozen BK_g6.out 0;have hx_g6_1 : w41.cell? ⟨g6,1,none⟩ = some (.slice A1 d.length p1):=(blk_cell BK_g6.out 1).trans rfl;have hf_g6_1:=blk_frozen BK_g6.out 1;have hx_g6_2 : w41.cell? ⟨g6,2,none⟩ = some (.slice B1 t3.length q1):=(blk_cell BK_g6.out 2).trans rfl;have hf_g6_2:=blk_frozen BK_g6.out 2;have hx_g6_3 : w41.cell? ⟨g6,3,none⟩ = some (.slice C1 0 r1):=(blk_cell BK_g6.out 3).trans rfl;have hf_g6_3:=blk_frozen BK_g6.out 3;have hx_g6_4 : w41.cell? ⟨g6,4,none⟩ = some (.bool true):=(blk_cell BK_g6.out 4).trans rfl;have hf_g6_4:=blk_frozen BK_g6.out 4;have hx_g6_5 : w41.cell? ⟨g6,5,none⟩ = some (.bool ftb):=(blk_cell BK_g6.out 5).trans rfl;have hf_g6_5:=blk_frozen BK_g6.out 5;have hx_g6_6 : w41.cell? ⟨g6,6,none⟩ = some (.bool false):=(blk_cell BK_g6.out 6).trans rfl;have hf_g6_6:=blk_frozen BK_g6.out 6) | (go_at_call 16;refine (supply_Done.calls 0 _ _ d _ _ t3 _ _ [] true ftb false false _ (Kd.R_reads' O_d.out).2.2 (Kd.R_reads' O_d.out).2.1 (Kd.R_reads' O_t.out).2.2 (Kd.R_reads' O_t.out).2.1 (Kd.R_reads' O_c.out).2.2 (Kd.R_reads' O_c.out).2.1 (by first | rfl | simp [supply_Done.f])).mono ?_;rintro e_ w42 ⟨rfl,hb⟩;have HB2:=Aside0.mk (below_step HB.out hb);clear HB;have HB:=HB2;clear HB2 hb))
    go_ret
    exact ⟨rfl,HB.out⟩
   | succ k1 =>
    have kt : decide (i2 < 2100) = true:=decide_eq_true (by have h_:=HI2.out;omega)
    have hq:=HQ2.out
    rw [once_go2] at hq
    by_cases c5 : t3.length < 1000000 ∧ o3.length < 1000000
    case neg => rw [if_neg c5] at hq;cases hq
    rw [if_pos c5] at hq
    have HL:=Aside0.mk c5
    have hw2 : wrap64 (i2 + 1) = i2 + 1:=by have h2:=HI2.out;unfold wrap64;omega
    clear HQ2 c5
    have hx_g6_0 : wr.cell? ⟨g6,0,none⟩ = some (.int .u64 0):=(blk_cell BK_g6.out 0).trans rfl
    have hf_g6_0:=blk_frozen BK_g6.out 0
    have hx_g6_1 : wr.cell? ⟨g6,1,none⟩ = some (.slice A1 d.length p1):=(blk_cell BK_g6.out 1).trans rfl
    have hf_g6_1:=blk_frozen BK_g6.out 1
    have hx_g6_2 : wr.cell? ⟨g6,2,none⟩ = some (.slice B1 t3.length q1):=(blk_cell BK_g6.out 2).trans rfl
    have hf_g6_2:=blk_frozen BK_g6.out 2
    have hx_g6_3 : wr.cell? ⟨g6,3,none⟩ = some (.slice C1 0 r1):=(blk_cell BK_g6.out 3).trans rfl
    have hf_g6_3:=blk_frozen BK_g6.out 3
    have hx_g6_4 : wr.cell? ⟨g6,4,none⟩ = some (.bool true):=(blk_cell BK_g6.out 4).trans rfl
    have hf_g6_4:=blk_frozen BK_g6.out 4
    have hx_g6_5 : wr.cell? ⟨g6,5,none⟩ = some (.bool ftb):=(blk_cell BK_g6.out 5).trans rfl
    have hf_g6_5:=blk_frozen BK_g6.out 5
    have hx_g6_6 : wr.cell? ⟨g6,6,none⟩ = some (.bool false):=(blk_cell BK_g6.out 6).trans rfl
    have hf_g6_6:=blk_frozen BK_g6.out 6
    by_cases c6 : t3.length = 0
    case pos =>
     rw [if_pos c6] at hq
     have HC6:=Aside0.mk c6
     clear c6
     cases ftb with
     | false =>
      rw [if_pos rfl] at hq
      simp only [Option.some.injEq,Prod.mk.injEq] at hq
      obtain ⟨rfl,rfl,h3_,rfl⟩:=hq
      have h4_:=h3_.symm
      subst h4_
      go_upto_region 26 with (first
       | ((with_reducible refine gate_callee (f:=10) rfl ?_);refine goesL_ (some 91) rfl rfl Try.func10 (by kernel_rfl) rfl #[.agg #[.int .u64 0,.slice A1 d.length p1,.slice B1 t3.length q1,.slice C1 0 r1,.bool true,.bool false,.bool false],.int .i64 a1,.int .u64 1048576] rfl (by (try simp only [List.map_toArray,List.map_cons,List.map_nil]);first | done | rfl) ?_;refine (supply_Next.none0 0 _ _ d _ _ t3 _ _ [] true false false a1 1048576 _ (Kd.R_reads' O_d.out).2.2 (Kd.R_reads' O_d.out).2.1 (Kd.R_reads' O_t.out).2.2 (Kd.R_reads' O_t.out).2.1 (Kd.R_reads' O_c.out).2.2 (Kd.R_reads' O_c.out).2.1 ⟨by have h_:=HD9.out;omega,by have h_:=HL.out;omega,by simp,by decide,by have h_:=HD9.out;omega⟩ HC6.out rfl).mono ?_;rintro e_ w12 ⟨rfl,hb⟩;refine ⟨_,rfl,?_⟩;clear hx_g6_0 hf_g6_0 hx_g6_1 hf_g6_1 hx_g6_2 hf_g6_2 hx_g6_3 hf_g6_3 hx_g6_4 hf_g6_4 hx_g6_5 hf_g6_5 hx_g6_6 hf_g6_6;have n14_:=Aside0.mk (below_step HB.out hb);have n15_:=Aside0.mk (blk_below BK_g6.out hb);have n16_:=Aside0.mk (Kd.R_below O_d.out hb);have n17_:=Aside0.mk (Kd.R_below O_t.out hb);have n18_:=Aside0.mk (Kd.R_below O_c.out hb);have n19_:=Aside0.mk (Kd.R_below O_x.out hb);have n20_:=Aside0.mk (Kd.R_below O_o.out hb);clear HB BK_g6 O_d O_t O_c O_x O_o;have HB:=n14_;have BK_g6:=n15_;have O_d:=n16_;have O_t:=n17_;have O_c:=n18_;have O_x:=n19_;have O_o:=n20_;clear n14_ n15_ n16_ n17_ n18_ n19_ n20_;clear hb)
       | ((with_reducible refine gate_dst (N:=17) rfl ?_);refine box_event ?hg (N:=17) ?hd (cs:=#[.int .u64 0,.slice none 0 0,.slice none 0 0,.slice none 0 0,.bool false,.bool false,.bool false]) (t:=27) ?hr ?_;(case hd => rfl);(case hg => rfl);(case hr => first | (go_simp;done) | (go_simp;rfl));intro g17 hg w13 hbox hb;have GE_g17:=Aside0.mk (show w.heap.size ≤ g17 by rw [hg];exact HB.out.size);have NB_g6_g17 : g6 ≠ g17:=(by rw [hg];exact Nat.ne_of_lt (blk_lt BK_g6.out));have NB_g17_g6:=NB_g6_g17.symm;have n21_:=Aside0.mk (below_step HB.out hb);have n22_:=Aside0.mk (blk_below BK_g6.out hb);have n23_:=Aside0.mk (Kd.R_below O_d.out hb);have n24_:=Aside0.mk (Kd.R_below O_t.out hb);have n25_:=Aside0.mk (Kd.R_below O_c.out hb);have n26_:=Aside0.mk (Kd.R_below O_x.out hb);have n27_:=Aside0.mk (Kd.R_below O_o.out hb);clear HB BK_g6 O_d O_t O_c O_x O_o;have HB:=n21_;have BK_g6:=n22_;have O_d:=n23_;have O_t:=n24_;have O_c:=n25_;have O_x:=n26_;have O_o:=n27_;clear n21_ n22_ n23_ n24_ n25_ n26_ n27_;have BK_g17:=Aside0.mk hbox;clear hbox hb hg)
       | ((with_reducible refine gate_dst (N:=18) rfl ?_);refine box_event ?hg (N:=18) ?hd (cs:=#[.int .u64 0,.slice none 0 0,.bool false]) (t:=32) ?hr ?_;(case hd => rfl);(case hg => rfl);(case hr => first | (go_simp;done) | (go_simp;rfl));intro g18 hg w14 hbox hb;have GE_g18:=Aside0.mk (show w.heap.size ≤ g18 by rw [hg];exact HB.out.size);have NB_g6_g18 : g6 ≠ g18:=(by rw [hg];exact Nat.ne_of_lt (blk_lt BK_g6.out));have NB_g18_g6:=NB_g6_g18.symm;have NB_g17_g18 : g17 ≠ g18:=(by rw [hg];exact Nat.ne_of_lt (blk_lt BK_g17.out));have NB_g18_g17:=NB_g17_g18.symm;have n28_:=Aside0.mk (below_step HB.out hb);have n29_:=Aside0.mk (blk_below BK_g6.out hb);have n30_:=Aside0.mk (blk_below BK_g17.out hb);have n31_:=Aside0.mk (Kd.R_below O_d.out hb);have n32_:=Aside0.mk (Kd.R_below O_t.out hb);have n33_:=Aside0.mk (Kd.R_below O_c.out hb);have n34_:=Aside0.mk (Kd.R_below O_x.out hb);have n35_:=Aside0.mk (Kd.R_below O_o.out hb);clear HB BK_g6 BK_g17 O_d O_t O_c O_x O_o;have HB:=n28_;have BK_g6:=n29_;have BK_g17:=n30_;have O_d:=n31_;have O_t:=n32_;have O_c:=n33_;have O_x:=n34_;have O_o:=n35_;clear n28_ n29_ n30_ n31_ n32_ n33_ n34_ n35_;have BK_g18:=Aside0.mk hbox;clear hbox hb hg;have hx_g17_0 : w14.cell? ⟨g17,0,none⟩ = some (.int .u64 0):=(blk_cell BK_g17.out 0).trans rfl;have hf_g17_0:=blk_frozen BK_g17.out 0;have hx_g17_1 : w14.cell? ⟨g17,1,none⟩ = some (.slice none 0 0):=(blk_cell BK_g17.out 1).trans rfl;have hf_g17_1:=blk_frozen BK_g17.out 1;have hx_g17_2 : w14.cell? ⟨g17,2,none⟩ = some (.slice none 0 0):=(blk_cell BK_g17.out 2).trans rfl;have hf_g17_2:=blk_frozen BK_g17.out 2;have hx_g17_3 : w14.cell? ⟨g17,3,none⟩ = some (.slice none 0 0):=(blk_cell BK_g17.out 3).trans rfl;have hf_g17_3:=blk_frozen BK_g17.out 3;have hx_g17_4 : w14.cell? ⟨g17,4,none⟩ = some (.bool false):=(blk_cell BK_g17.out 4).trans rfl;have hf_g17_4:=blk_frozen BK_g17.out 4;have hx_g17_5 : w14.cell? ⟨g17,5,none⟩ = some (.bool false):=(blk_cell BK_g17.out 5).trans rfl;have hf_g17_5:=blk_frozen BK_g17.out 5;have hx_g17_6 : w14.cell? ⟨g17,6,none⟩ = some (.bool false):=(blk_cell BK_g17.out 6).trans rfl;have hf_g17_6:=blk_frozen BK_g17.out 6;have hx_g18_0 : w14.cell? ⟨g18,0,none⟩ = some (.int .u64 0):=(blk_cell BK_g18.out 0).trans rfl;have hf_g18_0:=blk_frozen BK_g18.out 0;have hx_g18_1 : w14.cell? ⟨g18,1,none⟩ = some (.slice none 0 0):=(blk_cell BK_g18.out 1).trans rfl;have hf_g18_1:=blk_frozen BK_g18.out 1;have hx_g18_2 : w14.cell? ⟨g18,2,none⟩ = some (.bool false):=(blk_cell BK_g18.out 2).trans rfl;have hf_g18_2:=blk_frozen BK_g18.out 2))
      clear hx_g17_0 hf_g17_0 hx_g17_1 hf_g17_1 hx_g17_2 hf_g17_2 hx_g17_3 hf_g17_3 hx_g17_4 hf_g17_4 hx_g17_5 hf_g17_5 hx_g17_6 hf_g17_6 hx_g18_0 hf_g18_0 hx_g18_1 hf_g18_1 hx_g18_2 hf_g18_2
      obtain ⟨w15,hw36_⟩ : ∃ w_ : World,set7 w14 g17 (.int .u64 0) (.slice A1 d.length p1) (.slice B1 t3.length q1) (.slice C1 0 r1) (.bool true) (.bool false) (.bool false) = w_:=⟨_,rfl⟩
      have n37_:=Aside0.mk (blk7 hw36_ BK_g17.out)
      have n38_:=Aside0.mk (far7 hw36_ NB_g6_g17 BK_g6.out)
      have n39_:=Aside0.mk (far7 hw36_ NB_g18_g17 BK_g18.out)
      have n40_:=Aside0.mk (R7 hw36_ BK_g17.out rfl (by decide) O_d.out)
      have n41_:=Aside0.mk (R7 hw36_ BK_g17.out rfl (by decide) O_t.out)
      have n42_:=Aside0.mk (R7 hw36_ BK_g17.out rfl (by decide) O_c.out)
      have n43_:=Aside0.mk (R7 hw36_ BK_g17.out rfl (by decide) O_x.out)
      have n44_:=Aside0.mk (R7 hw36_ BK_g17.out rfl (by decide) O_o.out)
      have n45_:=Aside0.mk (below7 hw36_ GE_g17.out HB.out)
      rw [set7_fold,hw36_]
      clear hw36_ BK_g17 BK_g6 BK_g18 O_d O_t O_c O_x O_o HB
      have BK_g17:=n37_
      have BK_g6:=n38_
      have BK_g18:=n39_
      have O_d:=n40_
      have O_t:=n41_
      have O_c:=n42_
      have O_x:=n43_
      have O_o:=n44_
      have HB:=n45_
      clear n37_ n38_ n39_ n40_ n41_ n42_ n43_ n44_ n45_
      obtain ⟨w16,hw46_⟩ : ∃ w_ : World,set3 w15 g18 (.int .u64 0) (.slice none 0 0) (.bool false) = w_:=⟨_,rfl⟩
      have n47_:=Aside0.mk (blk3 hw46_ BK_g18.out)
      have n48_:=Aside0.mk (far3 hw46_ NB_g6_g18 BK_g6.out)
      have n49_:=Aside0.mk (far3 hw46_ NB_g17_g18 BK_g17.out)
      have n50_:=Aside0.mk (R3 hw46_ BK_g18.out rfl (by decide) O_d.out)
      have n51_:=Aside0.mk (R3 hw46_ BK_g18.out rfl (by decide) O_t.out)
      have n52_:=Aside0.mk (R3 hw46_ BK_g18.out rfl (by decide) O_c.out)
      have n53_:=Aside0.mk (R3 hw46_ BK_g18.out rfl (by decide) O_x.out)
      have n54_:=Aside0.mk (R3 hw46_ BK_g18.out rfl (by decide) O_o.out)
      have n55_:=Aside0.mk (below3 hw46_ GE_g18.out HB.out)
      rw [set3_fold,hw46_]
      clear hw46_ BK_g18 BK_g6 BK_g17 O_d O_t O_c O_x O_o HB
      have BK_g18:=n47_
      have BK_g6:=n48_
      have BK_g17:=n49_
      have O_d:=n50_
      have O_t:=n51_
      have O_c:=n52_
      have O_x:=n53_
      have O_o:=n54_
      have HB:=n55_
      clear n47_ n48_ n49_ n50_ n51_ n52_ n53_ n54_ n55_
      have hx_g17_0 : w16.cell? ⟨g17,0,none⟩ = some (.int .u64 0):=(blk_cell BK_g17.out 0).trans rfl
      have hf_g17_0:=blk_frozen BK_g17.out 0
      have hx_g17_1 : w16.cell? ⟨g17,1,none⟩ = some (.slice A1 d.length p1):=(blk_cell BK_g17.out 1).trans rfl
      have hf_g17_1:=blk_frozen BK_g17.out 1
      have hx_g17_2 : w16.cell? ⟨g17,2,none⟩ = some (.slice B1 t3.length q1):=(blk_cell BK_g17.out 2).trans rfl
      have hf_g17_2:=blk_frozen BK_g17.out 2
      have hx_g17_3 : w16.cell? ⟨g17,3,none⟩ = some (.slice C1 0 r1):=(blk_cell BK_g17.out 3).trans rfl
      have hf_g17_3:=blk_frozen BK_g17.out 3
      have hx_g17_4 : w16.cell? ⟨g17,4,none⟩ = some (.bool true):=(blk_cell BK_g17.out 4).trans rfl
      have hf_g17_4:=blk_frozen BK_g17.out 4
      have hx_g17_5 : w16.cell? ⟨g17,5,none⟩ = some (.bool false):=(blk_cell BK_g17.out 5).trans rfl
      have hf_g17_5:=blk_frozen BK_g17.out 5
      have hx_g17_6 : w16.cell? ⟨g17,6,none⟩ = some (.bool false):=(blk_cell BK_g17.out 6).trans rfl
      have hf_g17_6:=blk_frozen BK_g17.out 6
      have hx_g18_0 : w16.cell? ⟨g18,0,none⟩ = some (.int .u64 0):=(blk_cell BK_g18.out 0).trans rfl
      have hf_g18_0:=blk_frozen BK_g18.out 0
      have hx_g18_1 : w16.cell? ⟨g18,1,none⟩ = some (.slice none 0 0):=(blk_cell BK_g18.out 1).trans rfl
      have hf_g18_1:=blk_frozen BK_g18.out 1
      have hx_g18_2 : w16.cell? ⟨g18,2,none⟩ = some (.bool false):=(blk_cell BK_g18.out 2).trans rfl
      have hf_g18_2:=blk_frozen BK_g18.out 2
      have hx_g6_0 : w16.cell? ⟨g6,0,none⟩ = some (.int .u64 0):=(blk_cell BK_g6.out 0).trans rfl
      have hf_g6_0:=blk_frozen BK_g6.out 0
      have hx_g6_1 : w16.cell? ⟨g6,1,none⟩ = some (.slice A1 d.length p1):=(blk_cell BK_g6.out 1).trans rfl
      have hf_g6_1:=blk_frozen BK_g6.out 1
      have hx_g6_2 : w16.cell? ⟨g6,2,none⟩ = some (.slice B1 t3.length q1):=(blk_cell BK_g6.out 2).trans rfl
      have hf_g6_2:=blk_frozen BK_g6.out 2
      have hx_g6_3 : w16.cell? ⟨g6,3,none⟩ = some (.slice C1 0 r1):=(blk_cell BK_g6.out 3).trans rfl
      have hf_g6_3:=blk_frozen BK_g6.out 3
      have hx_g6_4 : w16.cell? ⟨g6,4,none⟩ = some (.bool true):=(blk_cell BK_g6.out 4).trans rfl
      have hf_g6_4:=blk_frozen BK_g6.out 4
      have hx_g6_5 : w16.cell? ⟨g6,5,none⟩ = some (.bool false):=(blk_cell BK_g6.out 5).trans rfl
      have hf_g6_5:=blk_frozen BK_g6.out 5
      have hx_g6_6 : w16.cell? ⟨g6,6,none⟩ = some (.bool false):=(blk_cell BK_g6.out 6).trans rfl
      have hf_g6_6:=blk_frozen BK_g6.out 6
      go_upto_region 27 with fail
      clear hx_g17_0 hf_g17_0 hx_g17_1 hf_g17_1 hx_g17_2 hf_g17_2 hx_g17_3 hf_g17_3 hx_g17_4 hf_g17_4 hx_g17_5 hf_g17_5 hx_g17_6 hf_g17_6 hx_g18_0 hf_g18_0 hx_g18_1 hf_g18_1 hx_g18_2 hf_g18_2 hx_g6_0 hf_g6_0 hx_g6_1 hf_g6_1 hx_g6_2 hf_g6_2 hx_g6_3 hf_g6_3 hx_g6_4 hf_g6_4 hx_g6_5 hf_g6_5 hx_g6_6 hf_g6_6
      obtain ⟨w17,hw56_⟩ : ∃ w_ : World,set7 w16 g6 (.int .u64 0) (.slice A1 d.length p1) (.slice B1 t3.length q1) (.slice C1 0 r1) (.bool true) (.bool false) (.bool false) = w_:=⟨_,rfl⟩
      have n57_:=Aside0.mk (blk7 hw56_ BK_g6.out)
      have n58_:=Aside0.mk (far7 hw56_ NB_g17_g6 BK_g17.out)
      have n59_:=Aside0.mk (far7 hw56_ NB_g18_g6 BK_g18.out)
      have n60_:=Aside0.mk (R7 hw56_ BK_g6.out rfl (by decide) O_d.out)
      have n61_:=Aside0.mk (R7 hw56_ BK_g6.out rfl (by decide) O_t.out)
      have n62_:=Aside0.mk (R7 hw56_ BK_g6.out rfl (by decide) O_c.out)
      have n63_:=Aside0.mk (R7 hw56_ BK_g6.out rfl (by decide) O_x.out)
      have n64_:=Aside0.mk (R7 hw56_ BK_g6.out rfl (by decide) O_o.out)
      have n65_:=Aside0.mk (below7 hw56_ GE_g6.out HB.out)
      rw [set7_fold,hw56_]
      clear hw56_ BK_g6 BK_g17 BK_g18 O_d O_t O_c O_x O_o HB
      have BK_g6:=n57_
      have BK_g17:=n58_
      have BK_g18:=n59_
      have O_d:=n60_
      have O_t:=n61_
      have O_c:=n62_
      have O_x:=n63_
      have O_o:=n64_
      have HB:=n65_
      clear n57_ n58_ n59_ n60_ n61_ n62_ n63_ n64_ n65_
      have hx_g6_0 : w17.cell? ⟨g6,0,none⟩ = some (.int .u64 0):=(blk_cell BK_g6.out 0).trans rfl
      have hf_g6_0:=blk_frozen BK_g6.out 0
      have hx_g6_1 : w17.cell? ⟨g6,1,none⟩ = some (.slice A1 d.length p1):=(blk_cell BK_g6.out 1).trans rfl
      have hf_g6_1:=blk_frozen BK_g6.out 1
      have hx_g6_2 : w17.cell? ⟨g6,2,none⟩ = some (.slice B1 t3.length q1):=(blk_cell BK_g6.out 2).trans rfl
      have hf_g6_2:=blk_frozen BK_g6.out 2
      have hx_g6_3 : w17.cell? ⟨g6,3,none⟩ = some (.slice C1 0 r1):=(blk_cell BK_g6.out 3).trans rfl
      have hf_g6_3:=blk_frozen BK_g6.out 3
      have hx_g6_4 : w17.cell? ⟨g6,4,none⟩ = some (.bool true):=(blk_cell BK_g6.out 4).trans rfl
      have hf_g6_4:=blk_frozen BK_g6.out 4
      have hx_g6_5 : w17.cell? ⟨g6,5,none⟩ = some (.bool false):=(blk_cell BK_g6.out 5).trans rfl
      have hf_g6_5:=blk_frozen BK_g6.out 5
      have hx_g6_6 : w17.cell? ⟨g6,6,none⟩ = some (.bool false):=(blk_cell BK_g6.out 6).trans rfl
      have hf_g6_6:=blk_frozen BK_g6.out 6
      have hx_g18_0 : w17.cell? ⟨g18,0,none⟩ = some (.int .u64 0):=(blk_cell BK_g18.out 0).trans rfl
      have hf_g18_0:=blk_frozen BK_g18.out 0
      have hx_g18_1 : w17.cell? ⟨g18,1,none⟩ = some (.slice none 0 0):=(blk_cell BK_g18.out 1).trans rfl
      have hf_g18_1:=blk_frozen BK_g18.out 1
      have hx_g18_2 : w17.cell? ⟨g18,2,none⟩ = some (.bool false):=(blk_cell BK_g18.out 2).trans rfl
      have hf_g18_2:=blk_frozen BK_g18.out 2
      have hcv1:=Kd.C_string (P:=Try.prog) (A:=Ao) (c:=po) Try.underlying22 Try.underlying5 Try.underlying9 (Kd.R_reads' O_o.out).2.2
      have hcv2:=Kd.C_string (P:=Try.prog) (A:=Ax) (c:=px) Try.underlying22 Try.underlying5 Try.underlying9 (Kd.R_reads' O_x.out).2.2
      have sq : ((strOfNums d).toList == (strOfNums d).toList) = true:=beq_self_eq_true _
      have kl : IntKind.u64.wrap (d.length : Int) = (d.length : Int):=by rw [IntKind.wrap_u64];have h_:=HD9.out;omega
      have ke : ((d.length : Int) == (d.length : Int)) = true:=beq_self_eq_true _
      clear hx_g6_0 hf_g6_0 hx_g6_1 hf_g6_1 hx_g6_2 hf_g6_2 hx_g6_3 hf_g6_3 hx_g6_4 hf_g6_4 hx_g6_5 hf_g6_5 hx_g6_6 hf_g6_6 hx_g18_0 hf_g18_0 hx_g18_1 hf_g18_1 hx_g18_2 hf_g18_2
      have hx_g6_0 : w17.cell? ⟨g6,0,none⟩ = some (.int .u64 0):=(blk_cell BK_g6.out 0).trans rfl
      have hf_g6_0:=blk_frozen BK_g6.out 0
      have hx_g6_1 : w17.cell? ⟨g6,1,none⟩ = some (.slice A1 d.length p1):=(blk_cell BK_g6.out 1).trans rfl
      have hf_g6_1:=blk_frozen BK_g6.out 1
      have hx_g6_2 : w17.cell? ⟨g6,2,none⟩ = some (.slice B1 t3.length q1):=(blk_cell BK_g6.out 2).trans rfl
      have hf_g6_2:=blk_frozen BK_g6.out 2
      have hx_g6_3 : w17.cell? ⟨g6,3,none⟩ = some (.slice C1 0 r1):=(blk_cell BK_g6.out 3).trans rfl
      have hf_g6_3:=blk_frozen BK_g6.out 3
      have hx_g6_4 : w17.cell? ⟨g6,4,none⟩ = some (.bool true):=(blk_cell BK_g6.out 4).trans rfl
      have hf_g6_4:=blk_frozen BK_g6.out 4
      have hx_g6_5 : w17.cell? ⟨g6,5,none⟩ = some (.bool false):=(blk_cell BK_g6.out 5).trans rfl
      have hf_g6_5:=blk_frozen BK_g6.out 5
      have hx_g6_6 : w17.cell? ⟨g6,6,none⟩ = some (.bool false):=(blk_cell BK_g6.out 6).trans rfl
      have hf_g6_6:=blk_frozen BK_g6.out 6
      go_wp2_with (first | (go_at_call 15;refine (supply_End.calls 0 _ _ d _ _ t3 _ _ [] true false false (d.length : Int) _ (Kd.R_reads' O_d.out).2.2 (Kd.R_reads' O_d.out).2.1 (Kd.R_reads' O_t.out).2.2 (Kd.R_reads' O_t.out).2.1 (Kd.R_reads' O_c.out).2.2 (Kd.R_reads' O_c.out).2.1 (by unfold supply_End.f;rw [kl,Int.zero_add,kl])).mono ?_;rintro e_ w41 ⟨rfl,hb⟩;clear hx_g6_0 hf_g6_0 hx_g6_1 hf_g6_1 hx_g6_2 hf_g6_2 hx_g6_3 hf_g6_3 hx_g6_4 hf_g6_4 hx_g6_5 hf_g6_5 hx_g6_6 hf_g6_6;have HB2:=Aside0.mk (below_step HB.out hb);have m0_:=Aside0.mk (blk_below BK_g6.out hb);have m1_:=Aside0.mk (Kd.R_below O_d.out hb);have m2_:=Aside0.mk (Kd.R_below O_t.out hb);have m3_:=Aside0.mk (Kd.R_below O_c.out hb);clear HB BK_g6 O_d O_t O_c;have HB:=HB2;have BK_g6:=m0_;have O_d:=m1_;have O_t:=m2_;have O_c:=m3_;clear HB2 m0_ m1_ m2_ m3_ hb;have hx_g6_0 : w41.cell? ⟨g6,0,none⟩ = some (.int .u64 0):=(blk_cell BK_g6.out 0).trans rfl;have hf_g6_0:=blk_frozen BK_g6.out 0;have hx_g6_1 : w41.cell? ⟨g6,1,none⟩ = some (.slice A1 d.length p1):=(blk_cell BK_g6.out 1).trans rfl;have hf_g6_1:=blk_frozen BK_g6.out 1;have hx_g6_2 : w41.cell? ⟨g6,2,none⟩ = some (.slice B1 t3.length q1):=(blk_cell BK_g6.out 2).trans rfl;have hf_g6_2:=blk_frozen BK_g6.out 2;have hx_g6_3 : w41.cell? ⟨g6,3,none⟩ = some (.slice C1 0 r1):=(blk_cell BK_g6.out 3).trans rfl;have hf_g6_3:=blk_frozen BK_g6.out 3;have hx_g6_4 : w41.cell? ⟨g6,4,none⟩ = some (.bool true):=(blk_cell BK_g6.out 4).trans rfl;have hf_g6_4:=blk_frozen BK_g6.out 4;have hx_g6_5 : w41.cell? ⟨g6,5,none⟩ = some (.bool false):=(blk_cell BK_g6.out 5).trans rfl;have hf_g6_5:=blk_frozen BK_g6.out 5;have hx_g6_6 : w41.cell? ⟨g6,6,none⟩ = some (.bool false):=(blk_cell BK_g6.out 6).trans rfl;have hf_g6_6:=blk_frozen BK_g6.out 6) | (go_at_call 16;refine (supply_Done.calls 0 _ _ d _ _ t3 _ _ [] true false false false _ (Kd.R_reads' O_d.out).2.2 (Kd.R_reads' O_d.out).2.1 (Kd.R_reads' O_t.out).2.2 (Kd.R_reads' O_t.out).2.1 (Kd.R_reads' O_c.out).2.2 (Kd.R_reads' O_c.out).2.1 (by first | rfl | simp [supply_Done.f])).mono ?_;rintro e_ w42 ⟨rfl,hb⟩;have HB2:=Aside0.mk (below_step HB.out hb);clear HB;have HB:=HB2;clear HB2 hb))
      go_ret
      exact ⟨rfl,HB.out⟩
     | true =>
      rw [if_neg (by decide)] at hq
      by_cases c7 : finb = false ∧ (d.length : Int) = (o3.length : Int)
      case neg => rw [if_neg c7] at hq;cases hq
      rw [if_pos c7] at hq
      obtain ⟨t2,hC,hq2⟩:=Option.bind_eq_some_iff.mp hq
      clear hq
      have hq:=hq2
      clear hq2
      obtain ⟨rfl,hlen⟩:=c7
      have HC_:=Aside0.mk hC
      have HG:=Aside0.mk hq
      have H8:=Aside0.mk hlen
      clear hC hq hlen
      go_upto_region 26 with (first
       | ((with_reducible refine gate_callee (f:=10) rfl ?_);refine goesL_ (some 91) rfl rfl Try.func10 (by kernel_rfl) rfl #[.agg #[.int .u64 0,.slice A1 d.length p1,.slice B1 t3.length q1,.slice C1 0 r1,.bool true,.bool true,.bool false],.int .i64 a1,.int .u64 1048576] rfl (by (try simp only [List.map_toArray,List.map_cons,List.map_nil]);first | done | rfl) ?_;refine (supply_Next.end 0 _ _ d _ _ t3 _ _ [] true true false a1 1048576 (d.length : Int) (d.length : Int) d.length d.length true t2 [] _ (Kd.R_reads' O_d.out).2.2 (Kd.R_reads' O_d.out).2.1 (Kd.R_reads' O_t.out).2.2 (Kd.R_reads' O_t.out).2.1 (Kd.R_reads' O_c.out).2.2 (Kd.R_reads' O_c.out).2.1 ⟨by have h_:=HD9.out;omega,by have h_:=HL.out;omega,by simp,by decide,by have h_:=HD9.out;omega⟩ rfl HC6.out (by omega) (by omega) (by simp) HC_.out (by omega) (by omega) (Nat.le_refl _) (Nat.le_refl _) (by simp)).mono ?_;rintro e_ w12 ⟨u4,u5,u6,u7,rfl,ho1,ho2,ho3,ho4,hb⟩;refine ⟨_,rfl,?_⟩;have HLX:=Kd.R_lt O_x.out;have HLO:=Kd.R_lt O_o.out;have O_yd:=Aside0.mk (Kd.R_mono (Kd.R_lower (Kd.R_bound (show Kd.R (Kd.int .u8) 5 w12 wr.heap.size _ u4 d from ho1)) HB.out.size) (ok':=(fun k_ => some k_ ≠ ((.slice Ao o3.length po) : Value).ownBlock ∧ some k_ ≠ ((.slice Ax d.length px) : Value).ownBlock)) (fun k_ hk_ => ⟨fun he_ => by have h1_:=HLO k_ he_.symm;have h2_:=hk_.2.1;omega,fun he_ => by have h1_:=HLX k_ he_.symm;have h2_:=hk_.2.1;omega⟩));have O_yt:=Aside0.mk (Kd.R_mono (Kd.R_lower ho2 HB.out.size) (ok':=fun _ => True) (fun _ _ => trivial));have O_yc:=Aside0.mk (Kd.R_mono (Kd.R_lower ho3 HB.out.size) (ok':=fun _ => True) (fun _ _ => trivial));have O_m:=Aside0.mk (Kd.R_mono (Kd.R_lower ho4 HB.out.size) (ok':=fun _ => True) (fun _ _ => trivial));clear ho1 ho2 ho3 ho4 HLX HLO O_d O_t O_c;clear hx_g6_0 hf_g6_0 hx_g6_1 hf_g6_1 hx_g6_2 hf_g6_2 hx_g6_3 hf_g6_3 hx_g6_4 hf_g6_4 hx_g6_5 hf_g6_5 hx_g6_6 hf_g6_6;have n14_:=Aside0.mk (below_step HB.out hb);have n15_:=Aside0.mk (blk_below BK_g6.out hb);have n16_:=Aside0.mk (Kd.R_below O_x.out hb);have n17_:=Aside0.mk (Kd.R_below O_o.out hb);clear HB BK_g6 O_x O_o;have HB:=n14_;have BK_g6:=n15_;have O_x:=n16_;have O_o:=n17_;clear n14_ n15_ n16_ n17_;clear hb;obtain ⟨A3,p3,e1_⟩:=Kd.R_slice O_yd.out;subst e1_;obtain ⟨B3,q3,e2_⟩:=Kd.R_slice O_yt.out;subst e2_;obtain ⟨C3,r3,e3_⟩:=Kd.R_slice O_yc.out;subst e3_;obtain ⟨M3,n3,e4_⟩:=Kd.R_slice O_m.out;subst e4_)
       | ((with_reducible refine gate_dst (N:=17) rfl ?_);refine box_event ?hg (N:=17) ?hd (cs:=#[.int .u64 0,.slice none 0 0,.slice none 0 0,.slice none 0 0,.bool false,.bool false,.bool false]) (t:=27) ?hr ?_;(case hd => rfl);(case hg => rfl);(case hr => first | (go_simp;done) | (go_simp;rfl));intro g17 hg w13 hbox hb;have GE_g17:=Aside0.mk (show w.heap.size ≤ g17 by rw [hg];exact HB.out.size);have NB_g6_g17 : g6 ≠ g17:=(by rw [hg];exact Nat.ne_of_lt (blk_lt BK_g6.out));have NB_g17_g6:=NB_g6_g17.symm;have n18_:=Aside0.mk (below_step HB.out hb);have n19_:=Aside0.mk (blk_below BK_g6.out hb);have n20_:=Aside0.mk (Kd.R_below O_x.out hb);have n21_:=Aside0.mk (Kd.R_below O_o.out hb);have n22_:=Aside0.mk (Kd.R_below O_yd.out hb);have n23_:=Aside0.mk (Kd.R_below O_yt.out hb);have n24_:=Aside0.mk (Kd.R_below O_yc.out hb);have n25_:=Aside0.mk (Kd.R_below O_m.out hb);clear HB BK_g6 O_x O_o O_yd O_yt O_yc O_m;have HB:=n18_;have BK_g6:=n19_;have O_x:=n20_;have O_o:=n21_;have O_yd:=n22_;have O_yt:=n23_;have O_yc:=n24_;have O_m:=n25_;clear n18_ n19_ n20_ n21_ n22_ n23_ n24_ n25_;have BK_g17:=Aside0.mk hbox;clear hbox hb hg)
       | ((with_reducible refine gate_dst (N:=18) rfl ?_);refine box_event ?hg (N:=18) ?hd (cs:=#[.int .u64 0,.slice none 0 0,.bool false]) (t:=32) ?hr ?_;(case hd => rfl);(case hg => rfl);(case hr => first | (go_simp;done) | (go_simp;rfl));intro g18 hg w14 hbox hb;have GE_g18:=Aside0.mk (show w.heap.size ≤ g18 by rw [hg];exact HB.out.size);have NB_g6_g18 : g6 ≠ g18:=(by rw [hg];exact Nat.ne_of_lt (blk_lt BK_g6.out));have NB_g18_g6:=NB_g6_g18.symm;have NB_g17_g18 : g17 ≠ g18:=(by rw [hg];exact Nat.ne_of_lt (blk_lt BK_g17.out));have NB_g18_g17:=NB_g17_g18.symm;have n26_:=Aside0.mk (below_step HB.out hb);have n27_:=Aside0.mk (blk_below BK_g6.out hb);have n28_:=Aside0.mk (blk_below BK_g17.out hb);have n29_:=Aside0.mk (Kd.R_below O_x.out hb);have n30_:=Aside0.mk (Kd.R_below O_o.out hb);have n31_:=Aside0.mk (Kd.R_below O_yd.out hb);have n32_:=Aside0.mk (Kd.R_below O_yt.out hb);have n33_:=Aside0.mk (Kd.R_below O_yc.out hb);have n34_:=Aside0.mk (Kd.R_below O_m.out hb);clear HB BK_g6 BK_g17 O_x O_o O_yd O_yt O_yc O_m;have HB:=n26_;have BK_g6:=n27_;have BK_g17:=n28_;have O_x:=n29_;have O_o:=n30_;have O_yd:=n31_;have O_yt:=n32_;have O_yc:=n33_;have O_m:=n34_;clear n26_ n27_ n28_ n29_ n30_ n31_ n32_ n33_ n34_;have BK_g18:=Aside0.mk hbox;clear hbox hb hg;have hx_g17_0 : w14.cell? ⟨g17,0,none⟩ = some (.int .u64 0):=(blk_cell BK_g17.out 0).trans rfl;have hf_g17_0:=blk_frozen BK_g17.out 0;have hx_g17_1 : w14.cell? ⟨g17,1,none⟩ = some (.slice none 0 0):=(blk_cell BK_g17.out 1).trans rfl;have hf_g17_1:=blk_frozen BK_g17.out 1;have hx_g17_2 : w14.cell? ⟨g17,2,none⟩ = some (.slice none 0 0):=(blk_cell BK_g17.out 2).trans rfl;have hf_g17_2:=blk_frozen BK_g17.out 2;have hx_g17_3 : w14.cell? ⟨g17,3,none⟩ = some (.slice none 0 0):=(blk_cell BK_g17.out 3).trans rfl;have hf_g17_3:=blk_frozen BK_g17.out 3;have hx_g17_4 : w14.cell? ⟨g17,4,none⟩ = some (.bool false):=(blk_cell BK_g17.out 4).trans rfl;have hf_g17_4:=blk_frozen BK_g17.out 4;have hx_g17_5 : w14.cell? ⟨g17,5,none⟩ = some (.bool false):=(blk_cell BK_g17.out 5).trans rfl;have hf_g17_5:=blk_frozen BK_g17.out 5;have hx_g17_6 : w14.cell? ⟨g17,6,none⟩ = some (.bool false):=(blk_cell BK_g17.out 6).trans rfl;have hf_g17_6:=blk_frozen BK_g17.out 6;have hx_g18_0 : w14.cell? ⟨g18,0,none⟩ = some (.int .u64 0):=(blk_cell BK_g18.out 0).trans rfl;have hf_g18_0:=blk_frozen BK_g18.out 0;have hx_g18_1 : w14.cell? ⟨g18,1,none⟩ = some (.slice none 0 0):=(blk_cell BK_g18.out 1).trans rfl;have hf_g18_1:=blk_frozen BK_g18.out 1;have hx_g18_2 : w14.cell? ⟨g18,2,none⟩ = some (.bool false):=(blk_cell BK_g18.out 2).trans rfl;have hf_g18_2:=blk_frozen BK_g18.out 2))
      clear hx_g17_0 hf_g17_0 hx_g17_1 hf_g17_1 hx_g17_2 hf_g17_2 hx_g17_3 hf_g17_3 hx_g17_4 hf_g17_4 hx_g17_5 hf_g17_5 hx_g17_6 hf_g17_6 hx_g18_0 hf_g18_0 hx_g18_1 hf_g18_1 hx_g18_2 hf_g18_2
      obtain ⟨w15,hw35_⟩ : ∃ w_ : World,set7 w14 g17 (.int .u64 0) (.slice A3 d.length p3) (.slice B3 t2.length q3) (.slice C3 0 r3) (.bool true) (.bool false) (.bool false) = w_:=⟨_,rfl⟩
      have n36_:=Aside0.mk (blk7 hw35_ BK_g17.out)
      have n37_:=Aside0.mk (far7 hw35_ NB_g6_g17 BK_g6.out)
      have n38_:=Aside0.mk (far7 hw35_ NB_g18_g17 BK_g18.out)
      have n39_:=Aside0.mk (R7 hw35_ BK_g17.out rfl (by decide) O_x.out)
      have n40_:=Aside0.mk (R7 hw35_ BK_g17.out rfl (by decide) O_o.out)
      have n41_:=Aside0.mk (R7 hw35_ BK_g17.out rfl (by decide) O_yd.out)
      have n42_:=Aside0.mk (R7 hw35_ BK_g17.out rfl (by decide) O_yt.out)
      have n43_:=Aside0.mk (R7 hw35_ BK_g17.out rfl (by decide) O_yc.out)
      have n44_:=Aside0.mk (R7 hw35_ BK_g17.out rfl (by decide) O_m.out)
      have n45_:=Aside0.mk (below7 hw35_ GE_g17.out HB.out)
      rw [set7_fold,hw35_]
      clear hw35_ BK_g17 BK_g6 BK_g18 O_x O_o O_yd O_yt O_yc O_m HB
      have BK_g17:=n36_
      have BK_g6:=n37_
      have BK_g18:=n38_
      have O_x:=n39_
      have O_o:=n40_
      have O_yd:=n41_
      have O_yt:=n42_
      have O_yc:=n43_
      have O_m:=n44_
      have HB:=n45_
      clear n36_ n37_ n38_ n39_ n40_ n41_ n42_ n43_ n44_ n45_
      obtain ⟨w16,hw46_⟩ : ∃ w_ : World,set3 w15 g18 (.int .u64 (d.length : Int)) (.slice M3 0 n3) (.bool true) = w_:=⟨_,rfl⟩
      have n47_:=Aside0.mk (blk3 hw46_ BK_g18.out)
      have n48_:=Aside0.mk (far3 hw46_ NB_g6_g18 BK_g6.out)
      have n49_:=Aside0.mk (far3 hw46_ NB_g17_g18 BK_g17.out)
      have n50_:=Aside0.mk (R3 hw46_ BK_g18.out rfl (by decide) O_x.out)
      have n51_:=Aside0.mk (R3 hw46_ BK_g18.out rfl (by decide) O_o.out)
      have n52_:=Aside0.mk (R3 hw46_ BK_g18.out rfl (by decide) O_yd.out)
      have n53_:=Aside0.mk (R3 hw46_ BK_g18.out rfl (by decide) O_yt.out)
      have n54_:=Aside0.mk (R3 hw46_ BK_g18.out rfl (by decide) O_yc.out)
      have n55_:=Aside0.mk (R3 hw46_ BK_g18.out rfl (by decide) O_m.out)
      have n56_:=Aside0.mk (below3 hw46_ GE_g18.out HB.out)
      rw [set3_fold,hw46_]
      clear hw46_ BK_g18 BK_g6 BK_g17 O_x O_o O_yd O_yt O_yc O_m HB
      have BK_g18:=n47_
      have BK_g6:=n48_
      have BK_g17:=n49_
      have O_x:=n50_
      have O_o:=n51_
      have O_yd:=n52_
      have O_yt:=n53_
      have O_yc:=n54_
      have O_m:=n55_
      have HB:=n56_
      clear n47_ n48_ n49_ n50_ n51_ n52_ n53_ n54_ n55_ n56_
      have hx_g17_0 : w16.cell? ⟨g17,0,none⟩ = some (.int .u64 0):=(blk_cell BK_g17.out 0).trans rfl
      have hf_g17_0:=blk_frozen BK_g17.out 0
      have hx_g17_1 : w16.cell? ⟨g17,1,none⟩ = some (.slice A3 d.length p3):=(blk_cell BK_g17.out 1).trans rfl
      have hf_g17_1:=blk_frozen BK_g17.out 1
      have hx_g17_2 : w16.cell? ⟨g17,2,none⟩ = some (.slice B3 t2.length q3):=(blk_cell BK_g17.out 2).trans rfl
      have hf_g17_2:=blk_frozen BK_g17.out 2
      have hx_g17_3 : w16.cell? ⟨g17,3,none⟩ = some (.slice C3 0 r3):=(blk_cell BK_g17.out 3).trans rfl
      have hf_g17_3:=blk_frozen BK_g17.out 3
      have hx_g17_4 : w16.cell? ⟨g17,4,none⟩ = some (.bool true):=(blk_cell BK_g17.out 4).trans rfl
      have hf_g17_4:=blk_frozen BK_g17.out 4
      have hx_g17_5 : w16.cell? ⟨g17,5,none⟩ = some (.bool false):=(blk_cell BK_g17.out 5).trans rfl
      have hf_g17_5:=blk_frozen BK_g17.out 5
      have hx_g17_6 : w16.cell? ⟨g17,6,none⟩ = some (.bool false):=(blk_cell BK_g17.out 6).trans rfl
      have hf_g17_6:=blk_frozen BK_g17.out 6
      have hx_g18_0 : w16.cell? ⟨g18,0,none⟩ = some (.int .u64 (d.length : Int)):=(blk_cell BK_g18.out 0).trans rfl
      have hf_g18_0:=blk_frozen BK_g18.out 0
      have hx_g18_1 : w16.cell? ⟨g18,1,none⟩ = some (.slice M3 0 n3):=(blk_cell BK_g18.out 1).trans rfl
      have hf_g18_1:=blk_frozen BK_g18.out 1
      have hx_g18_2 : w16.cell? ⟨g18,2,none⟩ = some (.bool true):=(blk_cell BK_g18.out 2).trans rfl
      have hf_g18_2:=blk_frozen BK_g18.out 2
      have hx_g6_0 : w16.cell? ⟨g6,0,none⟩ = some (.int .u64 0):=(blk_cell BK_g6.out 0).trans rfl
      have hf_g6_0:=blk_frozen BK_g6.out 0
      have hx_g6_1 : w16.cell? ⟨g6,1,none⟩ = some (.slice A1 d.length p1):=(blk_cell BK_g6.out 1).trans rfl
      have hf_g6_1:=blk_frozen BK_g6.out 1
      have hx_g6_2 : w16.cell? ⟨g6,2,none⟩ = some (.slice B1 t3.length q1):=(blk_cell BK_g6.out 2).trans rfl
      have hf_g6_2:=blk_frozen BK_g6.out 2
      have hx_g6_3 : w16.cell? ⟨g6,3,none⟩ = some (.slice C1 0 r1):=(blk_cell BK_g6.out 3).trans rfl
      have hf_g6_3:=blk_frozen BK_g6.out 3
      have hx_g6_4 : w16.cell? ⟨g6,4,none⟩ = some (.bool true):=(blk_cell BK_g6.out 4).trans rfl
      have hf_g6_4:=blk_frozen BK_g6.out 4
      have hx_g6_5 : w16.cell? ⟨g6,5,none⟩ = some (.bool true):=(blk_cell BK_g6.out 5).trans rfl
      have hf_g6_5:=blk_frozen BK_g6.out 5
      have hx_g6_6 : w16.cell? ⟨g6,6,none⟩ = some (.bool false):=(blk_cell BK_g6.out 6).trans rfl
      have hf_g6_6:=blk_frozen BK_g6.out 6
      go_upto_region 27 with fail
      clear hx_g17_0 hf_g17_0 hx_g17_1 hf_g17_1 hx_g17_2 hf_g17_2 hx_g17_3 hf_g17_3 hx_g17_4 hf_g17_4 hx_g17_5 hf_g17_5 hx_g17_6 hf_g17_6 hx_g18_0 hf_g18_0 hx_g18_1 hf_g18_1 hx_g18_2 hf_g18_2 hx_g6_0 hf_g6_0 hx_g6_1 hf_g6_1 hx_g6_2 hf_g6_2 hx_g6_3 hf_g6_3 hx_g6_4 hf_g6_4 hx_g6_5 hf_g6_5 hx_g6_6 hf_g6_6
      obtain ⟨w17,hw57_⟩ : ∃ w_ : World,set7 w16 g6 (.int .u64 0) (.slice A3 d.length p3) (.slice B3 t2.length q3) (.slice C3 0 r3) (.bool true) (.bool false) (.bool false) = w_:=⟨_,rfl⟩
      have n58_:=Aside0.mk (blk7 hw57_ BK_g6.out)
      have n59_:=Aside0.mk (far7 hw57_ NB_g17_g6 BK_g17.out)
      have n60_:=Aside0.mk (far7 hw57_ NB_g18_g6 BK_g18.out)
      have n61_:=Aside0.mk (R7 hw57_ BK_g6.out rfl (by decide) O_x.out)
      have n62_:=Aside0.mk (R7 hw57_ BK_g6.out rfl (by decide) O_o.out)
      have n63_:=Aside0.mk (R7 hw57_ BK_g6.out rfl (by decide) O_yd.out)
      have n64_:=Aside0.mk (R7 hw57_ BK_g6.out rfl (by decide) O_yt.out)
      have n65_:=Aside0.mk (R7 hw57_ BK_g6.out rfl (by decide) O_yc.out)
      have n66_:=Aside0.mk (R7 hw57_ BK_g6.out rfl (by decide) O_m.out)
      have n67_:=Aside0.mk (below7 hw57_ GE_g6.out HB.out)
      rw [set7_fold,hw57_]
      clear hw57_ BK_g6 BK_g17 BK_g18 O_x O_o O_yd O_yt O_yc O_m HB
      have BK_g6:=n58_
      have BK_g17:=n59_
      have BK_g18:=n60_
      have O_x:=n61_
      have O_o:=n62_
      have O_yd:=n63_
      have O_yt:=n64_
      have O_yc:=n65_
      have O_m:=n66_
      have HB:=n67_
      clear n58_ n59_ n60_ n61_ n62_ n63_ n64_ n65_ n66_ n67_
      have hx_g6_0 : w17.cell? ⟨g6,0,none⟩ = some (.int .u64 0):=(blk_cell BK_g6.out 0).trans rfl
      have hf_g6_0:=blk_frozen BK_g6.out 0
      have hx_g6_1 : w17.cell? ⟨g6,1,none⟩ = some (.slice A3 d.length p3):=(blk_cell BK_g6.out 1).trans rfl
      have hf_g6_1:=blk_frozen BK_g6.out 1
      have hx_g6_2 : w17.cell? ⟨g6,2,none⟩ = some (.slice B3 t2.length q3):=(blk_cell BK_g6.out 2).trans rfl
      have hf_g6_2:=blk_frozen BK_g6.out 2
      have hx_g6_3 : w17.cell? ⟨g6,3,none⟩ = some (.slice C3 0 r3):=(blk_cell BK_g6.out 3).trans rfl
      have hf_g6_3:=blk_frozen BK_g6.out 3
      have hx_g6_4 : w17.cell? ⟨g6,4,none⟩ = some (.bool true):=(blk_cell BK_g6.out 4).trans rfl
      have hf_g6_4:=blk_frozen BK_g6.out 4
      have hx_g6_5 : w17.cell? ⟨g6,5,none⟩ = some (.bool false):=(blk_cell BK_g6.out 5).trans rfl
      have hf_g6_5:=blk_frozen BK_g6.out 5
      have hx_g6_6 : w17.cell? ⟨g6,6,none⟩ = some (.bool false):=(blk_cell BK_g6.out 6).trans rfl
      have hf_g6_6:=blk_frozen BK_g6.out 6
      have hx_g18_0 : w17.cell? ⟨g18,0,none⟩ = some (.int .u64 (d.length : Int)):=(blk_cell BK_g18.out 0).trans rfl
      have hf_g18_0:=blk_frozen BK_g18.out 0
      have hx_g18_1 : w17.cell? ⟨g18,1,none⟩ = some (.slice M3 0 n3):=(blk_cell BK_g18.out 1).trans rfl
      have hf_g18_1:=blk_frozen BK_g18.out 1
      have hx_g18_2 : w17.cell? ⟨g18,2,none⟩ = some (.bool true):=(blk_cell BK_g18.out 2).trans rfl
      have hf_g18_2:=blk_frozen BK_g18.out 2
      have ko : IntKind.u64.wrap (o3.length : Int) = (d.length : Int):=by rw [← H8.out,IntKind.wrap_u64];have h_:=HD9.out;omega
      have kp : ((d.length : Int) != (d.length : Int)) = false:=by simp
      go_upto_region 30 with fail
      have HAL:=Aside0.mk (show (o3.length + ([] : List Int).length) * 1 ≤ 140737488355328 by have h_:=HL.out;simp;omega)
      go_wp2_with ((with_reducible refine gate_builtin (b:=.append) (xs:=#[.tmp 107,.tmp 109]) rfl ?_);at_builtin;refine Kd.R_append_rows (Kd.int .u8) (w0:=w) w.heap.size rfl (.tmp 107) (.tmp 109) 22 5 (.int .u8 0) 1 rfl Try.underlying22 info5 rfl (by decide) (by omega) (.slice Ao o3.length po) o3 ([] : List Int) _ _ _ (fun k_ => True ∧ some k_ ≠ ((.slice Ax d.length px) : Value).ownBlock) (fun _ => False) rfl rfl ?aO ?aR (fun _ _ h => h) (fun _ h => h.elim) ?aF ?aB ?aS ?aL ?_;(case aR => exact (Kd.R_reads' O_m.out).2.2);(case aB => exact HB.out);(case aF => exact fun k_ hk_ => ⟨trivial,fun he_ => absurd (Kd.R_lt O_x.out k_ he_.symm) (Nat.not_lt.mpr hk_)⟩);(case aO => exact O_o.out);(case aS => exact HB.out.size);(case aL => have h_:=HAL.out;omega);intro vo2 w18 ho hb hg hat;clear O_m;rw [List.append_nil] at ho;clear hx_g6_0 hf_g6_0 hx_g6_1 hf_g6_1 hx_g6_2 hf_g6_2 hx_g6_3 hf_g6_3 hx_g6_4 hf_g6_4 hx_g6_5 hf_g6_5 hx_g6_6 hf_g6_6 hx_g18_0 hf_g18_0 hx_g18_1 hf_g18_1 hx_g18_2 hf_g18_2;have n68_:=Aside0.mk (hb);have n69_:=Aside0.mk (blk_grown BK_g6.out hg (Kd.R_ne O_o.out BK_g6.out (by decide)));have n70_:=Aside0.mk (blk_grown BK_g17.out hg (Kd.R_ne O_o.out BK_g17.out (by decide)));have n71_:=Aside0.mk (blk_grown BK_g18.out hg (Kd.R_ne O_o.out BK_g18.out (by decide)));have n72_:=Aside0.mk (Kd.R_after (v:=(.slice Ao o3.length po)) (ok:=fun _ => True) O_x.out hg hat);have n73_:=Aside0.mk (Kd.R_mono (Kd.R_after (v:=(.slice Ao o3.length po)) (ok:=fun k_ => some k_ ≠ ((.slice Ax d.length px) : Value).ownBlock) (Kd.R_mono O_yd.out (fun _ h => ⟨h.2,h.1⟩)) hg hat) (ok':=(fun k_ => some k_ ≠ (vo2 : Value).ownBlock ∧ some k_ ≠ ((.slice Ax d.length px) : Value).ownBlock)) (fun _ h => ⟨h.2,h.1⟩));have n74_:=Aside0.mk (Kd.R_over' (v:=(.slice Ao o3.length po)) O_yt.out (Kd.R_typed O_o.out) (by decide) hg);have n75_:=Aside0.mk (Kd.R_over' (v:=(.slice Ao o3.length po)) O_yc.out (Kd.R_typed O_o.out) (by decide) hg);clear HB BK_g6 BK_g17 BK_g18 O_x O_yd O_yt O_yc;have HB:=n68_;have BK_g6:=n69_;have BK_g17:=n70_;have BK_g18:=n71_;have O_x:=n72_;have O_yd:=n73_;have O_yt:=n74_;have O_yc:=n75_;clear n68_ n69_ n70_ n71_ n72_ n73_ n74_ n75_;replace O_o:=Aside0.mk ho;clear ho hb hg hat;have hx_g18_0 : w18.cell? ⟨g18,0,none⟩ = some (.int .u64 (d.length : Int)):=(blk_cell BK_g18.out 0).trans rfl;have hf_g18_0:=blk_frozen BK_g18.out 0;have hx_g18_1 : w18.cell? ⟨g18,1,none⟩ = some (.slice M3 0 n3):=(blk_cell BK_g18.out 1).trans rfl;have hf_g18_1:=blk_frozen BK_g18.out 1;have hx_g18_2 : w18.cell? ⟨g18,2,none⟩ = some (.bool true):=(blk_cell BK_g18.out 2).trans rfl;have hf_g18_2:=blk_frozen BK_g18.out 2)
      go_roundg k1
      case measure => omega
      case rel => exact ⟨wrap64 (i2 + 1),t2,false,true,o3,_,_,_,_,rfl,rfl,(by first | rfl | simp only [hw2]),⟨by have h2:=HI2.out;rw [hw2];omega⟩,HG,O_yd,O_yt,O_yc,O_x,O_o,BK_g6,HB⟩
    case neg =>
     rw [if_neg c6] at hq
     obtain ⟨x,hx,hq2⟩:=Option.bind_eq_some_iff.mp hq
     clear hq
     have hq:=hq2
     clear hq2
     unfold once_tell at hx
     obtain ⟨off,hoff⟩ : ∃ y_ : Int,(rd_T37 t3 0).f0 = y_:=⟨_,rfl⟩
     obtain ⟨tq,htq⟩ : ∃ y_ : Int,mn (rd_T37 t3 0).f1 1048576 = y_:=⟨_,rfl⟩
     rw [hoff,htq] at hx
     obtain ⟨mz,hmz⟩ : ∃ y_ : Int,IntKind.u64.wrap (off + IntKind.u64.wrap a1) = y_:=⟨_,rfl⟩
     rw [hmz] at hx
     obtain ⟨tz,htz⟩ : ∃ y_ : Int,mn tq mz = y_:=⟨_,rfl⟩
     rw [htz] at hx
     by_cases c7 : off < tq ∧ 0 ≤ off ∧ off ≤ tz ∧ tz ≤ (d.length : Int)
     case neg => rw [if_neg c7] at hx;cases hx
     rw [if_pos c7] at hx
     obtain ⟨t2,hC,hx⟩:=Option.bind_eq_some_iff.mp hx
     obtain rfl:=Option.some.inj hx
     dsimp only at hq
     obtain ⟨m,hm⟩ : ∃ y_ : List Int,y_ = (d.take tz.toNat).drop off.toNat:=⟨_,rfl⟩
     rw [← hm] at hq
     obtain ⟨cfv,hcf⟩ : ∃ y_ : Bool,(ftb && (tz == (d.length : Int))) = y_:=⟨_,rfl⟩
     rw [hcf] at hq
     obtain ⟨f5,hf5⟩ : ∃ y_ : Bool,(ftb && !cfv) = y_:=⟨_,rfl⟩
     rw [hf5] at hq
     by_cases c8 : finb = false ∧ off = (o3.length : Int)
     case neg => rw [if_neg c8] at hq;cases hq
     rw [if_pos c8] at hq
     obtain ⟨rfl,c8⟩:=c8
     have hml : m.length ≤ d.length:=by rw [hm,List.length_drop,List.length_take];omega
     have HG:=Aside0.mk hq
     have HN:=Aside0.mk (show 0 < t3.length by omega)
     have H7:=Aside0.mk c7
     have H8:=Aside0.mk c8
     have HOFF:=Aside0.mk hoff
     have HTQ:=Aside0.mk htq
     have HMZ:=Aside0.mk hmz
     have HTZ:=Aside0.mk htz
     have HC_:=Aside0.mk hC
     have HM:=Aside0.mk hm
     have HML:=Aside0.mk hml
     have HCF:=Aside0.mk hcf
     have HF5:=Aside0.mk hf5
     clear hq c6 c7 c8 hoff htq hmz htz hC hm hml hcf hf5
     go_upto_region 26 with (first
      | ((with_reducible refine gate_callee (f:=10) rfl ?_);refine goesL_ (some 91) rfl rfl Try.func10 (by kernel_rfl) rfl #[.agg #[.int .u64 0,.slice A1 d.length p1,.slice B1 t3.length q1,.slice C1 0 r1,.bool true,.bool ftb,.bool false],.int .i64 a1,.int .u64 1048576] rfl (by (try simp only [List.map_toArray,List.map_cons,List.map_nil]);first | done | rfl) ?_;refine (supply_Next.part_ 0 _ _ d _ _ t3 _ _ [] true ftb false a1 1048576 off tz off.toNat tz.toNat cfv t2 m tq mz _ (Kd.R_reads' O_d.out).2.2 (Kd.R_reads' O_d.out).2.1 (Kd.R_reads' O_t.out).2.2 (Kd.R_reads' O_t.out).2.1 (Kd.R_reads' O_c.out).2.2 (Kd.R_reads' O_c.out).2.1 ⟨by have h_:=HD9.out;omega,by have h_:=HL.out;omega,by simp,by decide,by have h_:=HD9.out;omega⟩ HN.out HA1.out HOFF.out HTQ.out H7.out.1 HMZ.out HTZ.out HM.out HC_.out (by have h_:=H7.out;omega) (by have h_:=H7.out;omega) (by have h_:=H7.out;omega) (by have h_:=H7.out;omega) (by rw [← HCF.out,Int.zero_add])).mono ?_;rintro e_ w12 ⟨u4,u5,u6,u7,rfl,ho1,ho2,ho3,ho4,hb⟩;rw [HF5.out];refine ⟨_,rfl,?_⟩;have HLX:=Kd.R_lt O_x.out;have HLO:=Kd.R_lt O_o.out;have O_yd:=Aside0.mk (Kd.R_mono (Kd.R_lower (Kd.R_bound (show Kd.R (Kd.int .u8) 5 w12 wr.heap.size _ u4 d from ho1)) HB.out.size) (ok':=(fun k_ => some k_ ≠ ((.slice Ao o3.length po) : Value).ownBlock ∧ some k_ ≠ ((.slice Ax d.length px) : Value).ownBlock)) (fun k_ hk_ => ⟨fun he_ => by have h1_:=HLO k_ he_.symm;have h2_:=hk_.2.1;omega,fun he_ => by have h1_:=HLX k_ he_.symm;have h2_:=hk_.2.1;omega⟩));have O_yt:=Aside0.mk (Kd.R_mono (Kd.R_lower ho2 HB.out.size) (ok':=fun _ => True) (fun _ _ => trivial));have O_yc:=Aside0.mk (Kd.R_mono (Kd.R_lower ho3 HB.out.size) (ok':=fun _ => True) (fun _ _ => trivial));have O_m:=Aside0.mk (Kd.R_mono (Kd.R_lower ho4 HB.out.size) (ok':=fun _ => True) (fun _ _ => trivial));clear ho1 ho2 ho3 ho4 HLX HLO O_d O_t O_c;clear hx_g6_0 hf_g6_0 hx_g6_1 hf_g6_1 hx_g6_2 hf_g6_2 hx_g6_3 hf_g6_3 hx_g6_4 hf_g6_4 hx_g6_5 hf_g6_5 hx_g6_6 hf_g6_6;have n14_:=Aside0.mk (below_step HB.out hb);have n15_:=Aside0.mk (blk_below BK_g6.out hb);have n16_:=Aside0.mk (Kd.R_below O_x.out hb);have n17_:=Aside0.mk (Kd.R_below O_o.out hb);clear HB BK_g6 O_x O_o;have HB:=n14_;have BK_g6:=n15_;have O_x:=n16_;have O_o:=n17_;clear n14_ n15_ n16_ n17_;clear hb;obtain ⟨A3,p3,e1_⟩:=Kd.R_slice O_yd.out;subst e1_;obtain ⟨B3,q3,e2_⟩:=Kd.R_slice O_yt.out;subst e2_;obtain ⟨C3,r3,e3_⟩:=Kd.R_slice O_yc.out;subst e3_;obtain ⟨M3,n3,e4_⟩:=Kd.R_slice O_m.out;subst e4_)
      | ((with_reducible refine gate_dst (N:=17) rfl ?_);refine box_event ?hg (N:=17) ?hd (cs:=#[.int .u64 0,.slice none 0 0,.slice none 0 0,.slice none 0 0,.bool false,.bool false,.bool false]) (t:=27) ?hr ?_;(case hd => rfl);(case hg => rfl);(case hr => first | (go_simp;done) | (go_simp;rfl));intro g17 hg w13 hbox hb;have GE_g17:=Aside0.mk (show w.heap.size ≤ g17 by rw [hg];exact HB.out.size);have NB_g6_g17 : g6 ≠ g17:=(by rw [hg];exact Nat.ne_of_lt (blk_lt BK_g6.out));have NB_g17_g6:=NB_g6_g17.symm;have n18_:=Aside0.mk (below_step HB.out hb);have n19_:=Aside0.mk (blk_below BK_g6.out hb);have n20_:=Aside0.mk (Kd.R_below O_x.out hb);have n21_:=Aside0.mk (Kd.R_below O_o.out hb);have n22_:=Aside0.mk (Kd.R_below O_yd.out hb);have n23_:=Aside0.mk (Kd.R_below O_yt.out hb);have n24_:=Aside0.mk (Kd.R_below O_yc.out hb);have n25_:=Aside0.mk (Kd.R_below O_m.out hb);clear HB BK_g6 O_x O_o O_yd O_yt O_yc O_m;have HB:=n18_;have BK_g6:=n19_;have O_x:=n20_;have O_o:=n21_;have O_yd:=n22_;have O_yt:=n23_;have O_yc:=n24_;have O_m:=n25_;clear n18_ n19_ n20_ n21_ n22_ n23_ n24_ n25_;have BK_g17:=Aside0.mk hbox;clear hbox hb hg)
      | ((with_reducible refine gate_dst (N:=18) rfl ?_);refine box_event ?hg (N:=18) ?hd (cs:=#[.int .u64 0,.slice none 0 0,.bool false]) (t:=32) ?hr ?_;(case hd => rfl);(case hg => rfl);(case hr => first | (go_simp;done) | (go_simp;rfl));intro g18 hg w14 hbox hb;have GE_g18:=Aside0.mk (show w.heap.size ≤ g18 by rw [hg];exact HB.out.size);have NB_g6_g18 : g6 ≠ g18:=(by rw [hg];exact Nat.ne_of_lt (blk_lt BK_g6.out));have NB_g18_g6:=NB_g6_g18.symm;have NB_g17_g18 : g17 ≠ g18:=(by rw [hg];exact Nat.ne_of_lt (blk_lt BK_g17.out));have NB_g18_g17:=NB_g17_g18.symm;have n26_:=Aside0.mk (below_step HB.out hb);have n27_:=Aside0.mk (blk_below BK_g6.out hb);have n28_:=Aside0.mk (blk_below BK_g17.out hb);have n29_:=Aside0.mk (Kd.R_below O_x.out hb);have n30_:=Aside0.mk (Kd.R_below O_o.out hb);have n31_:=Aside0.mk (Kd.R_below O_yd.out hb);have n32_:=Aside0.mk (Kd.R_below O_yt.out hb);have n33_:=Aside0.mk (Kd.R_below O_yc.out hb);have n34_:=Aside0.mk (Kd.R_below O_m.out hb);clear HB BK_g6 BK_g17 O_x O_o O_yd O_yt O_yc O_m;have HB:=n26_;have BK_g6:=n27_;have BK_g17:=n28_;have O_x:=n29_;have O_o:=n30_;have O_yd:=n31_;have O_yt:=n32_;have O_yc:=n33_;have O_m:=n34_;clear n26_ n27_ n28_ n29_ n30_ n31_ n32_ n33_ n34_;have BK_g18:=Aside0.mk hbox;clear hbox hb hg;have hx_g17_0 : w14.cell? ⟨g17,0,none⟩ = some (.int .u64 0):=(blk_cell BK_g17.out 0).trans rfl;have hf_g17_0:=blk_frozen BK_g17.out 0;have hx_g17_1 : w14.cell? ⟨g17,1,none⟩ = some (.slice none 0 0):=(blk_cell BK_g17.out 1).trans rfl;have hf_g17_1:=blk_frozen BK_g17.out 1;have hx_g17_2 : w14.cell? ⟨g17,2,none⟩ = some (.slice none 0 0):=(blk_cell BK_g17.out 2).trans rfl;have hf_g17_2:=blk_frozen BK_g17.out 2;have hx_g17_3 : w14.cell? ⟨g17,3,none⟩ = some (.slice none 0 0):=(blk_cell BK_g17.out 3).trans rfl;have hf_g17_3:=blk_frozen BK_g17.out 3;have hx_g17_4 : w14.cell? ⟨g17,4,none⟩ = some (.bool false):=(blk_cell BK_g17.out 4).trans rfl;have hf_g17_4:=blk_frozen BK_g17.out 4;have hx_g17_5 : w14.cell? ⟨g17,5,none⟩ = some (.bool false):=(blk_cell BK_g17.out 5).trans rfl;have hf_g17_5:=blk_frozen BK_g17.out 5;have hx_g17_6 : w14.cell? ⟨g17,6,none⟩ = some (.bool false):=(blk_cell BK_g17.out 6).trans rfl;have hf_g17_6:=blk_frozen BK_g17.out 6;have hx_g18_0 : w14.cell? ⟨g18,0,none⟩ = some (.int .u64 0):=(blk_cell BK_g18.out 0).trans rfl;have hf_g18_0:=blk_frozen BK_g18.out 0;have hx_g18_1 : w14.cell? ⟨g18,1,none⟩ = some (.slice none 0 0):=(blk_cell BK_g18.out 1).trans rfl;have hf_g18_1:=blk_frozen BK_g18.out 1;have hx_g18_2 : w14.cell? ⟨g18,2,none⟩ = some (.bool false):=(blk_cell BK_g18.out 2).trans rfl;have hf_g18_2:=blk_frozen BK_g18.out 2))
     clear hx_g17_0 hf_g17_0 hx_g17_1 hf_g17_1 hx_g17_2 hf_g17_2 hx_g17_3 hf_g17_3 hx_g17_4 hf_g17_4 hx_g17_5 hf_g17_5 hx_g17_6 hf_g17_6 hx_g18_0 hf_g18_0 hx_g18_1 hf_g18_1 hx_g18_2 hf_g18_2
     obtain ⟨w15,hw35_⟩ : ∃ w_ : World,set7 w14 g17 (.int .u64 0) (.slice A3 d.length p3) (.slice B3 t2.length q3) (.slice C3 0 r3) (.bool true) (.bool f5) (.bool false) = w_:=⟨_,rfl⟩
     have n36_:=Aside0.mk (blk7 hw35_ BK_g17.out)
     have n37_:=Aside0.mk (far7 hw35_ NB_g6_g17 BK_g6.out)
     have n38_:=Aside0.mk (far7 hw35_ NB_g18_g17 BK_g18.out)
     have n39_:=Aside0.mk (R7 hw35_ BK_g17.out rfl (by decide) O_x.out)
     have n40_:=Aside0.mk (R7 hw35_ BK_g17.out rfl (by decide) O_o.out)
     have n41_:=Aside0.mk (R7 hw35_ BK_g17.out rfl (by decide) O_yd.out)
     have n42_:=Aside0.mk (R7 hw35_ BK_g17.out rfl (by decide) O_yt.out)
     have n43_:=Aside0.mk (R7 hw35_ BK_g17.out rfl (by decide) O_yc.out)
     have n44_:=Aside0.mk (R7 hw35_ BK_g17.out rfl (by decide) O_m.out)
     have n45_:=Aside0.mk (below7 hw35_ GE_g17.out HB.out)
     rw [set7_fold,hw35_]
     clear hw35_ BK_g17 BK_g6 BK_g18 O_x O_o O_yd O_yt O_yc O_m HB
     have BK_g17:=n36_
     have BK_g6:=n37_
     have BK_g18:=n38_
     have O_x:=n39_
     have O_o:=n40_
     have O_yd:=n41_
     have O_yt:=n42_
     have O_yc:=n43_
     have O_m:=n44_
     have HB:=n45_
     clear n36_ n37_ n38_ n39_ n40_ n41_ n42_ n43_ n44_ n45_
     obtain ⟨w16,hw46_⟩ : ∃ w_ : World,set3 w15 g18 (.int .u64 off) (.slice M3 m.length n3) (.bool cfv) = w_:=⟨_,rfl⟩
     have n47_:=Aside0.mk (blk3 hw46_ BK_g18.out)
     have n48_:=Aside0.mk (far3 hw46_ NB_g6_g18 BK_g6.out)
     have n49_:=Aside0.mk (far3 hw46_ NB_g17_g18 BK_g17.out)
     have n50_:=Aside0.mk (R3 hw46_ BK_g18.out rfl (by decide) O_x.out)
     have n51_:=Aside0.mk (R3 hw46_ BK_g18.out rfl (by decide) O_o.out)
     have n52_:=Aside0.mk (R3 hw46_ BK_g18.out rfl (by decide) O_yd.out)
     have n53_:=Aside0.mk (R3 hw46_ BK_g18.out rfl (by decide) O_yt.out)
     have n54_:=Aside0.mk (R3 hw46_ BK_g18.out rfl (by decide) O_yc.out)
     have n55_:=Aside0.mk (R3 hw46_ BK_g18.out rfl (by decide) O_m.out)
     have n56_:=Aside0.mk (below3 hw46_ GE_g18.out HB.out)
     rw [set3_fold,hw46_]
     clear hw46_ BK_g18 BK_g6 BK_g17 O_x O_o O_yd O_yt O_yc O_m HB
     have BK_g18:=n47_
     have BK_g6:=n48_
     have BK_g17:=n49_
     have O_x:=n50_
     have O_o:=n51_
     have O_yd:=n52_
     have O_yt:=n53_
     have O_yc:=n54_
     have O_m:=n55_
     have HB:=n56_
     clear n47_ n48_ n49_ n50_ n51_ n52_ n53_ n54_ n55_ n56_
     have hx_g17_0 : w16.cell? ⟨g17,0,none⟩ = some (.int .u64 0):=(blk_cell BK_g17.out 0).trans rfl
     have hf_g17_0:=blk_frozen BK_g17.out 0
     have hx_g17_1 : w16.cell? ⟨g17,1,none⟩ = some (.slice A3 d.length p3):=(blk_cell BK_g17.out 1).trans rfl
     have hf_g17_1:=blk_frozen BK_g17.out 1
     have hx_g17_2 : w16.cell? ⟨g17,2,none⟩ = some (.slice B3 t2.length q3):=(blk_cell BK_g17.out 2).trans rfl
     have hf_g17_2:=blk_frozen BK_g17.out 2
     have hx_g17_3 : w16.cell? ⟨g17,3,none⟩ = some (.slice C3 0 r3):=(blk_cell BK_g17.out 3).trans rfl
     have hf_g17_3:=blk_frozen BK_g17.out 3
     have hx_g17_4 : w16.cell? ⟨g17,4,none⟩ = some (.bool true):=(blk_cell BK_g17.out 4).trans rfl
     have hf_g17_4:=blk_frozen BK_g17.out 4
     have hx_g17_5 : w16.cell? ⟨g17,5,none⟩ = some (.bool f5):=(blk_cell BK_g17.out 5).trans rfl
     have hf_g17_5:=blk_frozen BK_g17.out 5
     have hx_g17_6 : w16.cell? ⟨g17,6,none⟩ = some (.bool false):=(blk_cell BK_g17.out 6).trans rfl
     have hf_g17_6:=blk_frozen BK_g17.out 6
     have hx_g18_0 : w16.cell? ⟨g18,0,none⟩ = some (.int .u64 off):=(blk_cell BK_g18.out 0).trans rfl
     have hf_g18_0:=blk_frozen BK_g18.out 0
     have hx_g18_1 : w16.cell? ⟨g18,1,none⟩ = some (.slice M3 m.length n3):=(blk_cell BK_g18.out 1).trans rfl
     have hf_g18_1:=blk_frozen BK_g18.out 1
     have hx_g18_2 : w16.cell? ⟨g18,2,none⟩ = some (.bool cfv):=(blk_cell BK_g18.out 2).trans rfl
     have hf_g18_2:=blk_frozen BK_g18.out 2
     have hx_g6_0 : w16.cell? ⟨g6,0,none⟩ = some (.int .u64 0):=(blk_cell BK_g6.out 0).trans rfl
     have hf_g6_0:=blk_frozen BK_g6.out 0
     have hx_g6_1 : w16.cell? ⟨g6,1,none⟩ = some (.slice A1 d.length p1):=(blk_cell BK_g6.out 1).trans rfl
     have hf_g6_1:=blk_frozen BK_g6.out 1
     have hx_g6_2 : w16.cell? ⟨g6,2,none⟩ = some (.slice B1 t3.length q1):=(blk_cell BK_g6.out 2).trans rfl
     have hf_g6_2:=blk_frozen BK_g6.out 2
     have hx_g6_3 : w16.cell? ⟨g6,3,none⟩ = some (.slice C1 0 r1):=(blk_cell BK_g6.out 3).trans rfl
     have hf_g6_3:=blk_frozen BK_g6.out 3
     have hx_g6_4 : w16.cell? ⟨g6,4,none⟩ = some (.bool true):=(blk_cell BK_g6.out 4).trans rfl
     have hf_g6_4:=blk_frozen BK_g6.out 4
     have hx_g6_5 : w16.cell? ⟨g6,5,none⟩ = some (.bool ftb):=(blk_cell BK_g6.out 5).trans rfl
     have hf_g6_5:=blk_frozen BK_g6.out 5
     have hx_g6_6 : w16.cell? ⟨g6,6,none⟩ = some (.bool false):=(blk_cell BK_g6.out 6).trans rfl
     have hf_g6_6:=blk_frozen BK_g6.out 6
     go_upto_region 27 with fail
     clear hx_g17_0 hf_g17_0 hx_g17_1 hf_g17_1 hx_g17_2 hf_g17_2 hx_g17_3 hf_g17_3 hx_g17_4 hf_g17_4 hx_g17_5 hf_g17_5 hx_g17_6 hf_g17_6 hx_g18_0 hf_g18_0 hx_g18_1 hf_g18_1 hx_g18_2 hf_g18_2 hx_g6_0 hf_g6_0 hx_g6_1 hf_g6_1 hx_g6_2 hf_g6_2 hx_g6_3 hf_g6_3 hx_g6_4 hf_g6_4 hx_g6_5 hf_g6_5 hx_g6_6 hf_g6_6
     obtain ⟨w17,hw57_⟩ : ∃ w_ : World,set7 w16 g6 (.int .u64 0) (.slice A3 d.length p3) (.slice B3 t2.length q3) (.slice C3 0 r3) (.bool true) (.bool f5) (.bool false) = w_:=⟨_,rfl⟩
     have n58_:=Aside0.mk (blk7 hw57_ BK_g6.out)
     have n59_:=Aside0.mk (far7 hw57_ NB_g17_g6 BK_g17.out)
     have n60_:=Aside0.mk (far7 hw57_ NB_g18_g6 BK_g18.out)
     have n61_:=Aside0.mk (R7 hw57_ BK_g6.out rfl (by decide) O_x.out)
     have n62_:=Aside0.mk (R7 hw57_ BK_g6.out rfl (by decide) O_o.out)
     have n63_:=Aside0.mk (R7 hw57_ BK_g6.out rfl (by decide) O_yd.out)
     have n64_:=Aside0.mk (R7 hw57_ BK_g6.out rfl (by decide) O_yt.out)
     have n65_:=Aside0.mk (R7 hw57_ BK_g6.out rfl (by decide) O_yc.out)
     have n66_:=Aside0.mk (R7 hw57_ BK_g6.out rfl (by decide) O_m.out)
     have n67_:=Aside0.mk (below7 hw57_ GE_g6.out HB.out)
     rw [set7_fold,hw57_]
     clear hw57_ BK_g6 BK_g17 BK_g18 O_x O_o O_yd O_yt O_yc O_m HB
     have BK_g6:=n58_
     have BK_g17:=n59_
     have BK_g18:=n60_
     have O_x:=n61_
     have O_o:=n62_
     have O_yd:=n63_
     have O_yt:=n64_
     have O_yc:=n65_
     have O_m:=n66_
     have HB:=n67_
     clear n58_ n59_ n60_ n61_ n62_ n63_ n64_ n65_ n66_ n67_
     have hx_g6_0 : w17.cell? ⟨g6,0,none⟩ = some (.int .u64 0):=(blk_cell BK_g6.out 0).trans rfl
     have hf_g6_0:=blk_frozen BK_g6.out 0
     have hx_g6_1 : w17.cell? ⟨g6,1,none⟩ = some (.slice A3 d.length p3):=(blk_cell BK_g6.out 1).trans rfl
     have hf_g6_1:=blk_frozen BK_g6.out 1
     have hx_g6_2 : w17.cell? ⟨g6,2,none⟩ = some (.slice B3 t2.length q3):=(blk_cell BK_g6.out 2).trans rfl
     have hf_g6_2:=blk_frozen BK_g6.out 2
     have hx_g6_3 : w17.cell? ⟨g6,3,none⟩ = some (.slice C3 0 r3):=(blk_cell BK_g6.out 3).trans rfl
     have hf_g6_3:=blk_frozen BK_g6.out 3
     have hx_g6_4 : w17.cell? ⟨g6,4,none⟩ = some (.bool true):=(blk_cell BK_g6.out 4).trans rfl
     have hf_g6_4:=blk_frozen BK_g6.out 4
     have hx_g6_5 : w17.cell? ⟨g6,5,none⟩ = some (.bool f5):=(blk_cell BK_g6.out 5).trans rfl
     have hf_g6_5:=blk_frozen BK_g6.out 5
     have hx_g6_6 : w17.cell? ⟨g6,6,none⟩ = some (.bool false):=(blk_cell BK_g6.out 6).trans rfl
     have hf_g6_6:=blk_frozen BK_g6.out 6
     have hx_g18_0 : w17.cell? ⟨g18,0,none⟩ = some (.int .u64 off):=(blk_cell BK_g18.out 0).trans rfl
     have hf_g18_0:=blk_frozen BK_g18.out 0
     have hx_g18_1 : w17.cell? ⟨g18,1,none⟩ = some (.slice M3 m.length n3):=(blk_cell BK_g18.out 1).trans rfl
     have hf_g18_1:=blk_frozen BK_g18.out 1
     have hx_g18_2 : w17.cell? ⟨g18,2,none⟩ = some (.bool cfv):=(blk_cell BK_g18.out 2).trans rfl
     have hf_g18_2:=blk_frozen BK_g18.out 2
     have ko : IntKind.u64.wrap (o3.length : Int) = off:=by rw [H8.out,IntKind.wrap_u64];have h_:=HL.out;omega
     have kp : (off != off) = false:=by simp
     go_upto_region 30 with fail
     have HAL:=Aside0.mk (show (o3.length + m.length) * 1 ≤ 140737488355328 by have h_:=HL.out;have h2_:=HML.out;have h3_:=HD9.out;omega)
     go_wp2_with ((with_reducible refine gate_builtin (b:=.append) (xs:=#[.tmp 107,.tmp 109]) rfl ?_);at_builtin;refine Kd.R_append_rows (Kd.int .u8) (w0:=w) w.heap.size rfl (.tmp 107) (.tmp 109) 22 5 (.int .u8 0) 1 rfl Try.underlying22 info5 rfl (by decide) (by omega) (.slice Ao o3.length po) o3 m _ _ _ (fun k_ => True ∧ some k_ ≠ ((.slice Ax d.length px) : Value).ownBlock) (fun _ => False) rfl rfl ?aO ?aR (fun _ _ h => h) (fun _ h => h.elim) ?aF ?aB ?aS ?aL ?_;(case aR => exact (Kd.R_reads' O_m.out).2.2);(case aB => exact HB.out);(case aF => exact fun k_ hk_ => ⟨trivial,fun he_ => absurd (Kd.R_lt O_x.out k_ he_.symm) (Nat.not_lt.mpr hk_)⟩);(case aO => exact O_o.out);(case aS => exact HB.out.size);(case aL => have h_:=HAL.out;omega);intro vo2 w18 ho hb hg hat;clear O_m;clear hx_g6_0 hf_g6_0 hx_g6_1 hf_g6_1 hx_g6_2 hf_g6_2 hx_g6_3 hf_g6_3 hx_g6_4 hf_g6_4 hx_g6_5 hf_g6_5 hx_g6_6 hf_g6_6 hx_g18_0 hf_g18_0 hx_g18_1 hf_g18_1 hx_g18_2 hf_g18_2;have n68_:=Aside0.mk (hb);have n69_:=Aside0.mk (blk_grown BK_g6.out hg (Kd.R_ne O_o.out BK_g6.out (by decide)));have n70_:=Aside0.mk (blk_grown BK_g17.out hg (Kd.R_ne O_o.out BK_g17.out (by decide)));have n71_:=Aside0.mk (blk_grown BK_g18.out hg (Kd.R_ne O_o.out BK_g18.out (by decide)));have n72_:=Aside0.mk (Kd.R_after (v:=(.slice Ao o3.length po)) (ok:=fun _ => True) O_x.out hg hat);have n73_:=Aside0.mk (Kd.R_mono (Kd.R_after (v:=(.slice Ao o3.length po)) (ok:=fun k_ => some k_ ≠ ((.slice Ax d.length px) : Value).ownBlock) (Kd.R_mono O_yd.out (fun _ h => ⟨h.2,h.1⟩)) hg hat) (ok':=(fun k_ => some k_ ≠ (vo2 : Value).ownBlock ∧ some k_ ≠ ((.slice Ax d.length px) : Value).ownBlock)) (fun _ h => ⟨h.2,h.1⟩));have n74_:=Aside0.mk (Kd.R_over' (v:=(.slice Ao o3.length po)) O_yt.out (Kd.R_typed O_o.out) (by decide) hg);have n75_:=Aside0.mk (Kd.R_over' (v:=(.slice Ao o3.length po)) O_yc.out (Kd.R_typed O_o.out) (by decide) hg);clear HB BK_g6 BK_g17 BK_g18 O_x O_yd O_yt O_yc;have HB:=n68_;have BK_g6:=n69_;have BK_g17:=n70_;have BK_g18:=n71_;have O_x:=n72_;have O_yd:=n73_;have O_yt:=n74_;have O_yc:=n75_;clear n68_ n69_ n70_ n71_ n72_ n73_ n74_ n75_;replace O_o:=Aside0.mk ho;clear ho hb hg hat;have hx_g18_0 : w18.cell? ⟨g18,0,none⟩ = some (.int .u64 off):=(blk_cell BK_g18.out 0).trans rfl;have hf_g18_0:=blk_frozen BK_g18.out 0;have hx_g18_1 : w18.cell? ⟨g18,1,none⟩ = some (.slice M3 m.length n3):=(blk_cell BK_g18.out 1).trans rfl;have hf_g18_1:=blk_frozen BK_g18.out 1;have hx_g18_2 : w18.cell? ⟨g18,2,none⟩ = some (.bool cfv):=(blk_cell BK_g18.out 2).trans rfl;have hf_g18_2:=blk_frozen BK_g18.out 2)
     go_roundg k1
     case measure => omega
     case rel => exact ⟨wrap64 (i2 + 1),t2,f5,cfv,o3 ++ m,_,_,_,_,rfl,rfl,(by first | rfl | simp only [hw2]),⟨by have h2:=HI2.out;rw [hw2];omega⟩,HG,O_yd,O_yt,O_yc,O_x,O_o,BK_g6,HB⟩
  case neg =>
   have cb1 : decide (i < (l0.length : Int)) = false:=decide_eq_false ce
   clear ce ci HI HQ h20
   obtain ⟨Ax,px,ex_⟩:=Kd.R_slice O_x.out
   subst ex_
   obtain ⟨A1,p1,e1_⟩:=Kd.R_slice O_d.out
   subst e1_
   obtain ⟨B1,q1,e2_⟩:=Kd.R_slice O_t.out
   subst e2_
   obtain ⟨C1,r1,e3_⟩:=Kd.R_slice O_c.out
   subst e3_
   have PF:=Aside0.mk (show supply_Finish.f 0 d t [] false false false = some (0,d,t,[],true,true,false) by unfold supply_Finish.f;rw [if_pos ⟨by have h_:=HD9.out;omega,by have h_:=HD9.out;omega,by simp⟩];rfl)
   have hx_g6_0 : wr.cell? ⟨g6,0,none⟩ = some (.int .u64 0):=(blk_cell BK_g6.out 0).trans rfl
   have hf_g6_0:=blk_frozen BK_g6.out 0
   have hx_g6_1 : wr.cell? ⟨g6,1,none⟩ = some (.slice A1 d.length p1):=(blk_cell BK_g6.out 1).trans rfl
   have hf_g6_1:=blk_frozen BK_g6.out 1
   have hx_g6_2 : wr.cell? ⟨g6,2,none⟩ = some (.slice B1 t.length q1):=(blk_cell BK_g6.out 2).trans rfl
   have hf_g6_2:=blk_frozen BK_g6.out 2
   have hx_g6_3 : wr.cell? ⟨g6,3,none⟩ = some (.slice C1 0 r1):=(blk_cell BK_g6.out 3).trans rfl
   have hf_g6_3:=blk_frozen BK_g6.out 3
   have hx_g6_4 : wr.cell? ⟨g6,4,none⟩ = some (.bool false):=(blk_cell BK_g6.out 4).trans rfl
   have hf_g6_4:=blk_frozen BK_g6.out 4
   have hx_g6_5 : wr.cell? ⟨g6,5,none⟩ = some (.bool false):=(blk_cell BK_g6.out 5).trans rfl
   have hf_g6_5:=blk_frozen BK_g6.out 5
   have hx_g6_6 : wr.cell? ⟨g6,6,none⟩ = some (.bool false):=(blk_cell BK_g6.out 6).trans rfl
   have hf_g6_6:=blk_frozen BK_g6.out 6
   go_upto_region 20 with fail
   go_upto_region 21 with ((with_reducible refine gate_callee (f:=14) rfl ?_);refine goesL_ (some 83) rfl rfl Try.func14 (by kernel_rfl) rfl #[.agg #[.int .u64 0,.slice A1 d.length p1,.slice B1 t.length q1,.slice C1 0 r1,.bool false,.bool false,.bool false]] rfl (by (try simp only [List.map_toArray,List.map_cons,List.map_nil]);first | done | rfl) ?_;refine (supply_Finish.calls 0 _ _ d _ _ t _ _ [] false false false _ _ _ _ _ _ _ _ (Kd.R_reads' O_d.out).2.2 (Kd.R_reads' O_d.out).2.1 (Kd.R_reads' O_t.out).2.2 (Kd.R_reads' O_t.out).2.1 (Kd.R_reads' O_c.out).2.2 (Kd.R_reads' O_c.out).2.1 PF.out).mono ?_;rintro e_ w21 ⟨u1,u2,u3,rfl,ho1,ho2,ho3,hb⟩;refine ⟨_,rfl,?_⟩;have HLX:=Kd.R_lt O_x.out;have HLO:=Kd.R_lt O_o.out;have O_fd:=Aside0.mk (Kd.R_mono (Kd.R_lower (Kd.R_bound ho1) HB.out.size) (ok':=(fun k_ => some k_ ≠ (vo : Value).ownBlock ∧ some k_ ≠ ((.slice Ax d.length px) : Value).ownBlock)) (fun k_ hk_ => ⟨fun he_ => by have h1_:=HLO k_ he_.symm;have h2_:=hk_.2.1;omega,fun he_ => by have h1_:=HLX k_ he_.symm;have h2_:=hk_.2.1;omega⟩));have O_ft:=Aside0.mk (Kd.R_mono (Kd.R_lower ho2 HB.out.size) (ok':=fun _ => True) (fun _ _ => trivial));have O_fc:=Aside0.mk (Kd.R_mono (Kd.R_lower ho3 HB.out.size) (ok':=fun _ => True) (fun _ _ => trivial));clear ho1 ho2 ho3 HLX HLO O_d O_t O_c;clear hx_g6_0 hf_g6_0 hx_g6_1 hf_g6_1 hx_g6_2 hf_g6_2 hx_g6_3 hf_g6_3 hx_g6_4 hf_g6_4 hx_g6_5 hf_g6_5 hx_g6_6 hf_g6_6;have n2_:=Aside0.mk (below_step HB.out hb);have n3_:=Aside0.mk (blk_below BK_g6.out hb);have n4_:=Aside0.mk (Kd.R_below O_x.out hb);have n5_:=Aside0.mk (Kd.R_below O_o.out hb);clear HB BK_g6 O_x O_o;have HB:=n2_;have BK_g6:=n3_;have O_x:=n4_;have O_o:=n5_;clear n2_ n3_ n4_ n5_;clear hb;obtain ⟨A2,p2,e1_⟩:=Kd.R_slice O_fd.out;subst e1_;obtain ⟨B2,q2,e2_⟩:=Kd.R_slice O_ft.out;subst e2_;obtain ⟨C2,r2,e3_⟩:=Kd.R_slice O_fc.out;subst e3_;have hx_g6_0 : w21.cell? ⟨g6,0,none⟩ = some (.int .u64 0):=(blk_cell BK_g6.out 0).trans rfl;have hf_g6_0:=blk_frozen BK_g6.out 0;have hx_g6_1 : w21.cell? ⟨g6,1,none⟩ = some (.slice A1 d.length p1):=(blk_cell BK_g6.out 1).trans rfl;have hf_g6_1:=blk_frozen BK_g6.out 1;have hx_g6_2 : w21.cell? ⟨g6,2,none⟩ = some (.slice B1 t.length q1):=(blk_cell BK_g6.out 2).trans rfl;have hf_g6_2:=blk_frozen BK_g6.out 2;have hx_g6_3 : w21.cell? ⟨g6,3,none⟩ = some (.slice C1 0 r1):=(blk_cell BK_g6.out 3).trans rfl;have hf_g6_3:=blk_frozen BK_g6.out 3;have hx_g6_4 : w21.cell? ⟨g6,4,none⟩ = some (.bool false):=(blk_cell BK_g6.out 4).trans rfl;have hf_g6_4:=blk_frozen BK_g6.out 4;have hx_g6_5 : w21.cell? ⟨g6,5,none⟩ = some (.bool false):=(blk_cell BK_g6.out 5).trans rfl;have hf_g6_5:=blk_frozen BK_g6.out 5;have hx_g6_6 : w21.cell? ⟨g6,6,none⟩ = some (.bool false):=(blk_cell BK_g6.out 6).trans rfl;have hf_g6_6:=blk_frozen BK_g6.out 6)
   clear hx_g6_0 hf_g6_0 hx_g6_1 hf_g6_1 hx_g6_2 hf_g6_2 hx_g6_3 hf_g6_3 hx_g6_4 hf_g6_4 hx_g6_5 hf_g6_5 hx_g6_6 hf_g6_6
   obtain ⟨w22,hw6_⟩ : ∃ w_ : World,set7 w21 g6 (.int .u64 0) (.slice A2 d.length p2) (.slice B2 t.length q2) (.slice C2 0 r2) (.bool true) (.bool true) (.bool false) = w_:=⟨_,rfl⟩
   have n7_:=Aside0.mk (blk7 hw6_ BK_g6.out)
   have n8_:=Aside0.mk (R7 hw6_ BK_g6.out rfl (by decide) O_x.out)
   have n9_:=Aside0.mk (R7 hw6_ BK_g6.out rfl (by decide) O_o.out)
   have n10_:=Aside0.mk (R7 hw6_ BK_g6.out rfl (by decide) O_fd.out)
   have n11_:=Aside0.mk (R7 hw6_ BK_g6.out rfl (by decide) O_ft.out)
   have n12_:=Aside0.mk (R7 hw6_ BK_g6.out rfl (by decide) O_fc.out)
   have n13_:=Aside0.mk (below7 hw6_ GE_g6.out HB.out)
   rw [set7_fold,hw6_]
   clear hw6_ BK_g6 O_x O_o O_fd O_ft O_fc HB
   have BK_g6:=n7_
   have O_x:=n8_
   have O_o:=n9_
   have O_fd:=n10_
   have O_ft:=n11_
   have O_fc:=n12_
   have HB:=n13_
   clear n7_ n8_ n9_ n10_ n11_ n12_ n13_
   go_upto_block 2 with fail
   go_wp2_with fail
   go_loopg [8,15,16] 2100 (fun kq v8 v15 v16 w' => ∃ (i : Int) (t3 : List S37) (ftb finb : Bool) (o3 : List Int) (vd vt vc vo : Value),vo = v8 ∧ v15 = .bool finb ∧ v16 = .int .i64 i ∧ Aside0 (0 ≤ i ∧ i + kq = 2100) ∧ Aside0 (once_go2 a1 d kq t3 ftb o3 finb = some (t8,ft8,d,true)) ∧ Aside0 (Kd.R (Kd.int .u8) 5 w' w.heap.size (fun k_ => some k_ ≠ (vo : Value).ownBlock ∧ some k_ ≠ ((.slice Ax d.length px) : Value).ownBlock) (vd) (d)) ∧ Aside0 (Kd.R k37 37 w' w.heap.size (fun _ => True) (vt) (t3)) ∧ Aside0 (Kd.R k37 37 w' w.heap.size (fun _ => True) (vc) ([])) ∧ Aside0 (Kd.R (Kd.int .u8) 5 w' w.heap.size (fun k_ => True ∧ some k_ ≠ (vo : Value).ownBlock) ((.slice Ax d.length px)) (d)) ∧ Aside0 (Kd.R (Kd.int .u8) 5 w' w.heap.size (fun k_ => True ∧ some k_ ≠ ((.slice Ax d.length px) : Value).ownBlock) (vo) (o3)) ∧ Aside0 (w'.heap[g6]? = some (.cells #[.int .u64 0,vd,vt,vc,.bool true,.bool ftb,.bool false] 27 (0,0))) ∧ Aside0 (Below w.heap.size w w'))
   case atStart => exact ⟨0,t,true,false,o,_,_,_,_,rfl,rfl,rfl,⟨by simp⟩,P2,O_fd,O_ft,O_fc,O_x,O_o,BK_g6,HB⟩
   case round =>
   clear O_fd O_ft O_fc O_x O_o BK_g6 HB PF
   obtain ⟨i2,t3,ftb,finb,o3,vd,vt,vc,vo,rfl,rfl,rfl,HI2,HQ2,O_d,O_t,O_c,O_x,O_o,BK_g6,HB⟩:=hrel
   obtain ⟨A1,p1,e1_⟩:=Kd.R_slice O_d.out
   subst e1_
   obtain ⟨B1,q1,e2_⟩:=Kd.R_slice O_t.out
   subst e2_
   obtain ⟨C1,r1,e3_⟩:=Kd.R_slice O_c.out
   subst e3_
   obtain ⟨Ao,po,eo⟩:=Kd.R_slice O_o.out
   subst eo
   cases gk with
   | zero =>
    have hi_ : i2 = 2100:=by have h_:=HI2.out;omega
    have kt : decide (i2 < 2100) = false:=decide_eq_false (by omega)
    have hq:=HQ2.out
    rw [once_go2] at hq
    simp only [Option.some.injEq,Prod.mk.injEq] at hq
    obtain ⟨rfl,rfl,h3_,rfl⟩:=hq
    have h4_:=h3_.symm
    subst h4_
    clear hi_ HQ2 HI2
    have hcv1:=Kd.C_string (P:=Try.prog) (A:=Ao) (c:=po) Try.underlying22 Try.underlying5 Try.underlying9 (Kd.R_reads' O_o.out).2.2
    have hcv2:=Kd.C_string (P:=Try.prog) (A:=Ax) (c:=px) Try.underlying22 Try.underlying5 Try.underlying9 (Kd.R_reads' O_x.out).2.2
    have sq : ((strOfNums d).toList == (strOfNums d).toList) = true:=beq_self_eq_true _
    have kl : IntKind.u64.wrap (d.length : Int) = (d.length : Int):=by rw [IntKind.wrap_u64];have h_:=HD9.out;omega
    have ke : ((d.length : Int) == (d.length : Int)) = true:=beq_self_eq_true _
    have hx_g6_0 : wr.cell? ⟨g6,0,none⟩ = some (.int .u64 0):=(blk_cell BK_g6.out 0).trans rfl
    have hf_g6_0:=blk_frozen BK_g6.out 0
    have hx_g6_1 : wr.cell? ⟨g6,1,none⟩ = some (.slice A1 d.length p1):=(blk_cell BK_g6.out 1).trans rfl
    have hf_g6_1:=blk_frozen BK_g6.out 1
    have hx_g6_2 : wr.cell? ⟨g6,2,none⟩ = some (.slice B1 t3.length q1):=(blk_cell BK_g6.out 2).trans rfl
    have hf_g6_2:=blk_frozen BK_g6.out 2
    have hx_g6_3 : wr.cell? ⟨g6,3,none⟩ = some (.slice C1 0 r1):=(blk_cell BK_g6.out 3).trans rfl
    have hf_g6_3:=blk_frozen BK_g6.out 3
    have hx_g6_4 : wr.cell? ⟨g6,4,none⟩ = some (.bool true):=(blk_cell BK_g6.out 4).trans rfl
    have hf_g6_4:=blk_frozen BK_g6.out 4
    have hx_g6_5 : wr.cell? ⟨g6,5,none⟩ = some (.bool ftb):=(blk_cell BK_g6.out 5).trans rfl
    have hf_g6_5:=blk_frozen BK_g6.out 5
    have hx_g6_6 : wr.cell? ⟨g6,6,none⟩ = some (.bool false):=(blk_cell BK_g6.out 6).trans rfl
    have hf_g6_6:=blk_frozen BK_g6.out 6
    go_wp2_with (first | (go_at_call 15;refine (supply_End.calls 0 _ _ d _ _ t3 _ _ [] true ftb false (d.length : Int) _ (Kd.R_reads' O_d.out).2.2 (Kd.R_reads' O_d.out).2.1 (Kd.R_reads' O_t.out).2.2 (Kd.R_reads' O_t.out).2.1 (Kd.R_reads' O_c.out).2.2 (Kd.R_reads' O_c.out).2.1 (by unfold supply_End.f;rw [kl,Int.zero_add,kl])).mono ?_;rintro e_ w41 ⟨rfl,hb⟩;clear hx_g6_0 hf_g6_0 hx_g6_1 hf_g6_1 hx_g6_2 hf_g6_2 hx_g6_3 hf_g6_3 hx_g6_4 hf_g6_4 hx_g6_5 hf_g6_5 hx_g6_6 hf_g6_6;have HB2:=Aside0.mk (below_step HB.out hb);have m0_:=Aside0.mk (blk_below BK_g6.out hb);have m1_:=Aside0.mk (Kd.R_below O_d.out hb);have m2_:=Aside0.mk (Kd.R_below O_t.out hb);have m3_:=Aside0.mk (Kd.R_below O_c.out hb);clear HB BK_g6 O_d O_t O_c;have HB:=HB2;have BK_g6:=m0_;have O_d:=m1_;have O_t:=m2_;have O_c:=m3_;clear HB2 m0_ m1_ m2_ m3_ hb;have hx_g6_0 : w41.cell? ⟨g6,0,none⟩ = some (.int .u64 0):=(blk_cell BK_g6.out 0).trans rfl;have hf_g6_0:=blk_frozen BK_g6.out 0;have hx_g6_1 : w41.cell? ⟨g6,1,none⟩ = some (.slice A1 d.length p1):=(blk_cell BK_g6.out 1).trans rfl;have hf_g6_1:=blk_frozen BK_g6.out 1;have hx_g6_2 : w41.cell? ⟨g6,2,none⟩ = some (.slice B1 t3.length q1):=(blk_cell BK_g6.out 2).trans rfl;have hf_g6_2:=blk_frozen BK_g6.out 2;have hx_g6_3 : w41.cell? ⟨g6,3,none⟩ = some (.slice C1 0 r1):=(blk_cell BK_g6.out 3).trans rfl;have hf_g6_3:=blk_frozen BK_g6.out 3;have hx_g6_4 : w41.cell? ⟨g6,4,none⟩ = some (.bool true):=(blk_cell BK_g6.out 4).trans rfl;have hf_g6_4:=blk_frozen BK_g6.out 4;have hx_g6_5 : w41.cell? ⟨g6,5,none⟩ = some (.bool ftb):=(blk_cell BK_g6.out 5).trans rfl;have hf_g6_5:=blk_frozen BK_g6.out 5;have hx_g6_6 : w41.cell? ⟨g6,6,none⟩ = some (.bool false):=(blk_cell BK_g6.out 6).trans rfl;have hf_g6_6:=blk_frozen BK_g6.out 6) | (go_at_call 16;refine (supply_Done.calls 0 _ _ d _ _ t3 _ _ [] true ftb false false _ (Kd.R_reads' O_d.out).2.2 (Kd.R_reads' O_d.out).2.1 (Kd.R_reads' O_t.out).2.2 (Kd.R_reads' O_t.out).2.1 (Kd.R_reads' O_c.out).2.2 (Kd.R_reads' O_c.out).2.1 (by first | rfl | simp [supply_Done.f])).mono ?_;rintro e_ w42 ⟨rfl,hb⟩;have HB2:=Aside0.mk (below_step HB.out hb);clear HB;have HB:=HB2;clear HB2 hb))
    go_ret
    exact ⟨rfl,HB.out⟩
   | succ k1 =>
    have kt : decide (i2 < 2100) = true:=decide_eq_true (by have h_:=HI2.out;omega)
    have hq:=HQ2.out
    rw [once_go2] at hq
    by_cases c5 : t3.length < 1000000 ∧ o3.length < 1000000
    case neg => rw [if_neg c5] at hq;cases hq
    rw [if_pos c5] at hq
    have HL:=Aside0.mk c5
    have hw2 : wrap64 (i2 + 1) = i2 + 1:=by have h2:=HI2.out;unfold wrap64;omega
    clear HQ2 c5
    have hx_g6_0 : wr.cell? ⟨g6,0,none⟩ = some (.int .u64 0):=(blk_cell BK_g6.out 0).trans rfl
    have hf_g6_0:=blk_frozen BK_g6.out 0
    have hx_g6_1 : wr.cell? ⟨g6,1,none⟩ = some (.slice A1 d.length p1):=(blk_cell BK_g6.out 1).trans rfl
    have hf_g6_1:=blk_frozen BK_g6.out 1
    have hx_g6_2 : wr.cell? ⟨g6,2,none⟩ = some (.slice B1 t3.length q1):=(blk_cell BK_g6.out 2).trans rfl
    have hf_g6_2:=blk_frozen BK_g6.out 2
    have hx_g6_3 : wr.cell? ⟨g6,3,none⟩ = some (.slice C1 0 r1):=(blk_cell BK_g6.out 3).trans rfl
    have hf_g6_3:=blk_frozen BK_g6.out 3
    have hx_g6_4 : wr.cell? ⟨g6,4,none⟩ = some (.bool true):=(blk_cell BK_g6.out 4).trans rfl
    have hf_g6_4:=blk_frozen BK_g6.out 4
    have hx_g6_5 : wr.cell? ⟨g6,5,none⟩ = some (.bool ftb):=(blk_cell BK_g6.out 5).trans rfl
    have hf_g6_5:=blk_frozen BK_g6.out 5
    have hx_g6_6 : wr.cell? ⟨g6,6,none⟩ = some (.bool false):=(blk_cell BK_g6.out 6).trans rfl
    have hf_g6_6:=blk_frozen BK_g6.out 6
    by_cases c6 : t3.length = 0
    case pos =>
     rw [if_pos c6] at hq
     have HC6:=Aside0.mk c6
     clear c6
     cases ftb with
     | false =>
      rw [if_pos rfl] at hq
      simp only [Option.some.injEq,Prod.mk.injEq] at hq
      obtain ⟨rfl,rfl,h3_,rfl⟩:=hq
      have h4_:=h3_.symm
      subst h4_
      go_upto_region 26 with (first
       | ((with_reducible refine gate_callee (f:=10) rfl ?_);refine goesL_ (some 91) rfl rfl Try.func10 (by kernel_rfl) rfl #[.agg #[.int .u64 0,.slice A1 d.length p1,.slice B1 t3.length q1,.slice C1 0 r1,.bool true,.bool false,.bool false],.int .i64 a1,.int .u64 1048576] rfl (by (try simp only [List.map_toArray,List.map_cons,List.map_nil]);first | done | rfl) ?_;refine (supply_Next.none0 0 _ _ d _ _ t3 _ _ [] true false false a1 1048576 _ (Kd.R_reads' O_d.out).2.2 (Kd.R_reads' O_d.out).2.1 (Kd.R_reads' O_t.out).2.2 (Kd.R_reads' O_t.out).2.1 (Kd.R_reads' O_c.out).2.2 (Kd.R_reads' O_c.out).2.1 ⟨by have h_:=HD9.out;omega,by have h_:=HL.out;omega,by simp,by decide,by have h_:=HD9.out;omega⟩ HC6.out rfl).mono ?_;rintro e_ w12 ⟨rfl,hb⟩;refine ⟨_,rfl,?_⟩;clear hx_g6_0 hf_g6_0 hx_g6_1 hf_g6_1 hx_g6_2 hf_g6_2 hx_g6_3 hf_g6_3 hx_g6_4 hf_g6_4 hx_g6_5 hf_g6_5 hx_g6_6 hf_g6_6;have n14_:=Aside0.mk (below_step HB.out hb);have n15_:=Aside0.mk (blk_below BK_g6.out hb);have n16_:=Aside0.mk (Kd.R_below O_d.out hb);have n17_:=Aside0.mk (Kd.R_below O_t.out hb);have n18_:=Aside0.mk (Kd.R_below O_c.out hb);have n19_:=Aside0.mk (Kd.R_below O_x.out hb);have n20_:=Aside0.mk (Kd.R_below O_o.out hb);clear HB BK_g6 O_d O_t O_c O_x O_o;have HB:=n14_;have BK_g6:=n15_;have O_d:=n16_;have O_t:=n17_;have O_c:=n18_;have O_x:=n19_;have O_o:=n20_;clear n14_ n15_ n16_ n17_ n18_ n19_ n20_;clear hb)
       | ((with_reducible refine gate_dst (N:=17) rfl ?_);refine box_event ?hg (N:=17) ?hd (cs:=#[.int .u64 0,.slice none 0 0,.slice none 0 0,.slice none 0 0,.bool false,.bool false,.bool false]) (t:=27) ?hr ?_;(case hd => rfl);(case hg => rfl);(case hr => first | (go_simp;done) | (go_simp;rfl));intro g17 hg w13 hbox hb;have GE_g17:=Aside0.mk (show w.heap.size ≤ g17 by rw [hg];exact HB.out.size);have NB_g6_g17 : g6 ≠ g17:=(by rw [hg];exact Nat.ne_of_lt (blk_lt BK_g6.out));have NB_g17_g6:=NB_g6_g17.symm;have n21_:=Aside0.mk (below_step HB.out hb);have n22_:=Aside0.mk (blk_below BK_g6.out hb);have n23_:=Aside0.mk (Kd.R_below O_d.out hb);have n24_:=Aside0.mk (Kd.R_below O_t.out hb);have n25_:=Aside0.mk (Kd.R_below O_c.out hb);have n26_:=Aside0.mk (Kd.R_below O_x.out hb);have n27_:=Aside0.mk (Kd.R_below O_o.out hb);clear HB BK_g6 O_d O_t O_c O_x O_o;have HB:=n21_;have BK_g6:=n22_;have O_d:=n23_;have O_t:=n24_;have O_c:=n25_;have O_x:=n26_;have O_o:=n27_;clear n21_ n22_ n23_ n24_ n25_ n26_ n27_;have BK_g17:=Aside0.mk hbox;clear hbox hb hg)
       | ((with_reducible refine gate_dst (N:=18) rfl ?_);refine box_event ?hg (N:=18) ?hd (cs:=#[.int .u64 0,.slice none 0 0,.bool false]) (t:=32) ?hr ?_;(case hd => rfl);(case hg => rfl);(case hr => first | (go_simp;done) | (go_simp;rfl));intro g18 hg w14 hbox hb;have GE_g18:=Aside0.mk (show w.heap.size ≤ g18 by rw [hg];exact HB.out.size);have NB_g6_g18 : g6 ≠ g18:=(by rw [hg];exact Nat.ne_of_lt (blk_lt BK_g6.out));have NB_g18_g6:=NB_g6_g18.symm;have NB_g17_g18 : g17 ≠ g18:=(by rw [hg];exact Nat.ne_of_lt (blk_lt BK_g17.out));have NB_g18_g17:=NB_g17_g18.symm;have n28_:=Aside0.mk (below_step HB.out hb);have n29_:=Aside0.mk (blk_below BK_g6.out hb);have n30_:=Aside0.mk (blk_below BK_g17.out hb);have n31_:=Aside0.mk (Kd.R_below O_d.out hb);have n32_:=Aside0.mk (Kd.R_below O_t.out hb);have n33_:=Aside0.mk (Kd.R_below O_c.out hb);have n34_:=Aside0.mk (Kd.R_below O_x.out hb);have n35_:=Aside0.mk (Kd.R_below O_o.out hb);clear HB BK_g6 BK_g17 O_d O_t O_c O_x O_o;have HB:=n28_;have BK_g6:=n29_;have BK_g17:=n30_;have O_d:=n31_;have O_t:=n32_;have O_c:=n33_;have O_x:=n34_;have O_o:=n35_;clear n28_ n29_ n30_ n31_ n32_ n33_ n34_ n35_;have BK_g18:=Aside0.mk hbox;clear hbox hb hg;have hx_g17_0 : w14.cell? ⟨g17,0,none⟩ = some (.int .u64 0):=(blk_cell BK_g17.out 0).trans rfl;have hf_g17_0:=blk_frozen BK_g17.out 0;have hx_g17_1 : w14.cell? ⟨g17,1,none⟩ = some (.slice none 0 0):=(blk_cell BK_g17.out 1).trans rfl;have hf_g17_1:=blk_frozen BK_g17.out 1;have hx_g17_2 : w14.cell? ⟨g17,2,none⟩ = some (.slice none 0 0):=(blk_cell BK_g17.out 2).trans rfl;have hf_g17_2:=blk_frozen BK_g17.out 2;have hx_g17_3 : w14.cell? ⟨g17,3,none⟩ = some (.slice none 0 0):=(blk_cell BK_g17.out 3).trans rfl;have hf_g17_3:=blk_frozen BK_g17.out 3;have hx_g17_4 : w14.cell? ⟨g17,4,none⟩ = some (.bool false):=(blk_cell BK_g17.out 4).trans rfl;have hf_g17_4:=blk_frozen BK_g17.out 4;have hx_g17_5 : w14.cell? ⟨g17,5,none⟩ = some (.bool false):=(blk_cell BK_g17.out 5).trans rfl;have hf_g17_5:=blk_frozen BK_g17.out 5;have hx_g17_6 : w14.cell? ⟨g17,6,none⟩ = some (.bool false):=(blk_cell BK_g17.out 6).trans rfl;have hf_g17_6:=blk_frozen BK_g17.out 6;have hx_g18_0 : w14.cell? ⟨g18,0,none⟩ = some (.int .u64 0):=(blk_cell BK_g18.out 0).trans rfl;have hf_g18_0:=blk_frozen BK_g18.out 0;have hx_g18_1 : w14.cell? ⟨g18,1,none⟩ = some (.slice none 0 0):=(blk_cell BK_g18.out 1).trans rfl;have hf_g18_1:=blk_frozen BK_g18.out 1;have hx_g18_2 : w14.cell? ⟨g18,2,none⟩ = some (.bool false):=(blk_cell BK_g18.out 2).trans rfl;have hf_g18_2:=blk_frozen BK_g18.out 2))
      clear hx_g17_0 hf_g17_0 hx_g17_1 hf_g17_1 hx_g17_2 hf_g17_2 hx_g17_3 hf_g17_3 hx_g17_4 hf_g17_4 hx_g17_5 hf_g17_5 hx_g17_6 hf_g17_6 hx_g18_0 hf_g18_0 hx_g18_1 hf_g18_1 hx_g18_2 hf_g18_2
      obtain ⟨w15,hw36_⟩ : ∃ w_ : World,set7 w14 g17 (.int .u64 0) (.slice A1 d.length p1) (.slice B1 t3.length q1) (.slice C1 0 r1) (.bool true) (.bool false) (.bool false) = w_:=⟨_,rfl⟩
      have n37_:=Aside0.mk (blk7 hw36_ BK_g17.out)
      have n38_:=Aside0.mk (far7 hw36_ NB_g6_g17 BK_g6.out)
      have n39_:=Aside0.mk (far7 hw36_ NB_g18_g17 BK_g18.out)
      have n40_:=Aside0.mk (R7 hw36_ BK_g17.out rfl (by decide) O_d.out)
      have n41_:=Aside0.mk (R7 hw36_ BK_g17.out rfl (by decide) O_t.out)
      have n42_:=Aside0.mk (R7 hw36_ BK_g17.out rfl (by decide) O_c.out)
      have n43_:=Aside0.mk (R7 hw36_ BK_g17.out rfl (by decide) O_x.out)
      have n44_:=Aside0.mk (R7 hw36_ BK_g17.out rfl (by decide) O_o.out)
      have n45_:=Aside0.mk (below7 hw36_ GE_g17.out HB.out)
      rw [set7_fold,hw36_]
      clear hw36_ BK_g17 BK_g6 BK_g18 O_d O_t O_c O_x O_o HB
      have BK_g17:=n37_
      have BK_g6:=n38_
      have BK_g18:=n39_
      have O_d:=n40_
      have O_t:=n41_
      have O_c:=n42_
      have O_x:=n43_
      have O_o:=n44_
      have HB:=n45_
      clear n37_ n38_ n39_ n40_ n41_ n42_ n43_ n44_ n45_
      obtain ⟨w16,hw46_⟩ : ∃ w_ : World,set3 w15 g18 (.int .u64 0) (.slice none 0 0) (.bool false) = w_:=⟨_,rfl⟩
      have n47_:=Aside0.mk (blk3 hw46_ BK_g18.out)
      have n48_:=Aside0.mk (far3 hw46_ NB_g6_g18 BK_g6.out)
      have n49_:=Aside0.mk (far3 hw46_ NB_g17_g18 BK_g17.out)
      have n50_:=Aside0.mk (R3 hw46_ BK_g18.out rfl (by decide) O_d.out)
      have n51_:=Aside0.mk (R3 hw46_ BK_g18.out rfl (by decide) O_t.out)
      have n52_:=Aside0.mk (R3 hw46_ BK_g18.out rfl (by decide) O_c.out)
      have n53_:=Aside0.mk (R3 hw46_ BK_g18.out rfl (by decide) O_x.out)
      have n54_:=Aside0.mk (R3 hw46_ BK_g18.out rfl (by decide) O_o.out)
      have n55_:=Aside0.mk (below3 hw46_ GE_g18.out HB.out)
      rw [set3_fold,hw46_]
      clear hw46_ BK_g18 BK_g6 BK_g17 O_d O_t O_c O_x O_o HB
      have BK_g18:=n47_
      have BK_g6:=n48_
      have BK_g17:=n49_
      have O_d:=n50_
      have O_t:=n51_
      have O_c:=n52_
      have O_x:=n53_
      have O_o:=n54_
      have HB:=n55_
      clear n47_ n48_ n49_ n50_ n51_ n52_ n53_ n54_ n55_
      have hx_g17_0 : w16.cell? ⟨g17,0,none⟩ = some (.int .u64 0):=(blk_cell BK_g17.out 0).trans rfl
      have hf_g17_0:=blk_frozen BK_g17.out 0
      have hx_g17_1 : w16.cell? ⟨g17,1,none⟩ = some (.slice A1 d.length p1):=(blk_cell BK_g17.out 1).trans rfl
      have hf_g17_1:=blk_frozen BK_g17.out 1
      have hx_g17_2 : w16.cell? ⟨g17,2,none⟩ = some (.slice B1 t3.length q1):=(blk_cell BK_g17.out 2).trans rfl
      have hf_g17_2:=blk_frozen BK_g17.out 2
      have hx_g17_3 : w16.cell? ⟨g17,3,none⟩ = some (.slice C1 0 r1):=(blk_cell BK_g17.out 3).trans rfl
      have hf_g17_3:=blk_frozen BK_g17.out 3
      have hx_g17_4 : w16.cell? ⟨g17,4,none⟩ = some (.bool true):=(blk_cell BK_g17.out 4).trans rfl
      have hf_g17_4:=blk_frozen BK_g17.out 4
      have hx_g17_5 : w16.cell? ⟨g17,5,none⟩ = some (.bool false):=(blk_cell BK_g17.out 5).trans rfl
      have hf_g17_5:=blk_frozen BK_g17.out 5
      have hx_g17_6 : w16.cell? ⟨g17,6,none⟩ = some (.bool false):=(blk_cell BK_g17.out 6).trans rfl
      have hf_g17_6:=blk_frozen BK_g17.out 6
      have hx_g18_0 : w16.cell? ⟨g18,0,none⟩ = some (.int .u64 0):=(blk_cell BK_g18.out 0).trans rfl
      have hf_g18_0:=blk_frozen BK_g18.out 0
      have hx_g18_1 : w16.cell? ⟨g18,1,none⟩ = some (.slice none 0 0):=(blk_cell BK_g18.out 1).trans rfl
      have hf_g18_1:=blk_frozen BK_g18.out 1
      have hx_g18_2 : w16.cell? ⟨g18,2,none⟩ = some (.bool false):=(blk_cell BK_g18.out 2).trans rfl
      have hf_g18_2:=blk_frozen BK_g18.out 2
      have hx_g6_0 : w16.cell? ⟨g6,0,none⟩ = some (.int .u64 0):=(blk_cell BK_g6.out 0).trans rfl
      have hf_g6_0:=blk_frozen BK_g6.out 0
      have hx_g6_1 : w16.cell? ⟨g6,1,none⟩ = some (.slice A1 d.length p1):=(blk_cell BK_g6.out 1).trans rfl
      have hf_g6_1:=blk_frozen BK_g6.out 1
      have hx_g6_2 : w16.cell? ⟨g6,2,none⟩ = some (.slice B1 t3.length q1):=(blk_cell BK_g6.out 2).trans rfl
      have hf_g6_2:=blk_frozen BK_g6.out 2
      have hx_g6_3 : w16.cell? ⟨g6,3,none⟩ = some (.slice C1 0 r1):=(blk_cell BK_g6.out 3).trans rfl
      have hf_g6_3:=blk_frozen BK_g6.out 3
      have hx_g6_4 : w16.cell? ⟨g6,4,none⟩ = some (.bool true):=(blk_cell BK_g6.out 4).trans rfl
      have hf_g6_4:=blk_frozen BK_g6.out 4
      have hx_g6_5 : w16.cell? ⟨g6,5,none⟩ = some (.bool false):=(blk_cell BK_g6.out 5).trans rfl
      have hf_g6_5:=blk_frozen BK_g6.out 5
      have hx_g6_6 : w16.cell? ⟨g6,6,none⟩ = some (.bool false):=(blk_cell BK_g6.out 6).trans rfl
      have hf_g6_6:=blk_frozen BK_g6.out 6
      go_upto_region 27 with fail
      clear hx_g17_0 hf_g17_0 hx_g17_1 hf_g17_1 hx_g17_2 hf_g17_2 hx_g17_3 hf_g17_3 hx_g17_4 hf_g17_4 hx_g17_5 hf_g17_5 hx_g17_6 hf_g17_6 hx_g18_0 hf_g18_0 hx_g18_1 hf_g18_1 hx_g18_2 hf_g18_2 hx_g6_0 hf_g6_0 hx_g6_1 hf_g6_1 hx_g6_2 hf_g6_2 hx_g6_3 hf_g6_3 hx_g6_4 hf_g6_4 hx_g6_5 hf_g6_5 hx_g6_6 hf_g6_6
      obtain ⟨w17,hw56_⟩ : ∃ w_ : World,set7 w16 g6 (.int .u64 0) (.slice A1 d.length p1) (.slice B1 t3.length q1) (.slice C1 0 r1) (.bool true) (.bool false) (.bool false) = w_:=⟨_,rfl⟩
      have n57_:=Aside0.mk (blk7 hw56_ BK_g6.out)
      have n58_:=Aside0.mk (far7 hw56_ NB_g17_g6 BK_g17.out)
      have n59_:=Aside0.mk (far7 hw56_ NB_g18_g6 BK_g18.out)
      have n60_:=Aside0.mk (R7 hw56_ BK_g6.out rfl (by decide) O_d.out)
      have n61_:=Aside0.mk (R7 hw56_ BK_g6.out rfl (by decide) O_t.out)
      have n62_:=Aside0.mk (R7 hw56_ BK_g6.out rfl (by decide) O_c.out)
      have n63_:=Aside0.mk (R7 hw56_ BK_g6.out rfl (by decide) O_x.out)
      have n64_:=Aside0.mk (R7 hw56_ BK_g6.out rfl (by decide) O_o.out)
      have n65_:=Aside0.mk (below7 hw56_ GE_g6.out HB.out)
      rw [set7_fold,hw56_]
      clear hw56_ BK_g6 BK_g17 BK_g18 O_d O_t O_c O_x O_o HB
      have BK_g6:=n57_
      have BK_g17:=n58_
      have BK_g18:=n59_
      have O_d:=n60_
      have O_t:=n61_
      have O_c:=n62_
      have O_x:=n63_
      have O_o:=n64_
      have HB:=n65_
      clear n57_ n58_ n59_ n60_ n61_ n62_ n63_ n64_ n65_
      have hx_g6_0 : w17.cell? ⟨g6,0,none⟩ = some (.int .u64 0):=(blk_cell BK_g6.out 0).trans rfl
      have hf_g6_0:=blk_frozen BK_g6.out 0
      have hx_g6_1 : w17.cell? ⟨g6,1,none⟩ = some (.slice A1 d.length p1):=(blk_cell BK_g6.out 1).trans rfl
      have hf_g6_1:=blk_frozen BK_g6.out 1
      have hx_g6_2 : w17.cell? ⟨g6,2,none⟩ = some (.slice B1 t3.length q1):=(blk_cell BK_g6.out 2).trans rfl
      have hf_g6_2:=blk_frozen BK_g6.out 2
      have hx_g6_3 : w17.cell? ⟨g6,3,none⟩ = some (.slice C1 0 r1):=(blk_cell BK_g6.out 3).trans rfl
      have hf_g6_3:=blk_frozen BK_g6.out 3
      have hx_g6_4 : w17.cell? ⟨g6,4,none⟩ = some (.bool true):=(blk_cell BK_g6.out 4).trans rfl
      have hf_g6_4:=blk_frozen BK_g6.out 4
      have hx_g6_5 : w17.cell? ⟨g6,5,none⟩ = some (.bool false):=(blk_cell BK_g6.out 5).trans rfl
      have hf_g6_5:=blk_frozen BK_g6.out 5
      have hx_g6_6 : w17.cell? ⟨g6,6,none⟩ = some (.bool false):=(blk_cell BK_g6.out 6).trans rfl
      have hf_g6_6:=blk_frozen BK_g6.out 6
      have hx_g18_0 : w17.cell? ⟨g18,0,none⟩ = some (.int .u64 0):=(blk_cell BK_g18.out 0).trans rfl
      have hf_g18_0:=blk_frozen BK_g18.out 0
      have hx_g18_1 : w17.cell? ⟨g18,1,none⟩ = some (.slice none 0 0):=(blk_cell BK_g18.out 1).trans rfl
      have hf_g18_1:=blk_frozen BK_g18.out 1
      have hx_g18_2 : w17.cell? ⟨g18,2,none⟩ = some (.bool false):=(blk_cell BK_g18.out 2).trans rfl
      have hf_g18_2:=blk_frozen BK_g18.out 2
      have hcv1:=Kd.C_string (P:=Try.prog) (A:=Ao) (c:=po) Try.underlying22 Try.underlying5 Try.underlying9 (Kd.R_reads' O_o.out).2.2
      have hcv2:=Kd.C_string (P:=Try.prog) (A:=Ax) (c:=px) Try.underlying22 Try.underlying5 Try.underlying9 (Kd.R_reads' O_x.out).2.2
      have sq : ((strOfNums d).toList == (strOfNums d).toList) = true:=beq_self_eq_true _
      have kl : IntKind.u64.wrap (d.length : Int) = (d.length : Int):=by rw [IntKind.wrap_u64];have h_:=HD9.out;omega
      have ke : ((d.length : Int) == (d.length : Int)) = true:=beq_self_eq_true _
      clear hx_g6_0 hf_g6_0 hx_g6_1 hf_g6_1 hx_g6_2 hf_g6_2 hx_g6_3 hf_g6_3 hx_g6_4 hf_g6_4 hx_g6_5 hf_g6_5 hx_g6_6 hf_g6_6 hx_g18_0 hf_g18_0 hx_g18_1 hf_g18_1 hx_g18_2 hf_g18_2
      have hx_g6_0 : w17.cell? ⟨g6,0,none⟩ = some (.int .u64 0):=(blk_cell BK_g6.out 0).trans rfl
      have hf_g6_0:=blk_frozen BK_g6.out 0
      have hx_g6_1 : w17.cell? ⟨g6,1,none⟩ = some (.slice A1 d.length p1):=(blk_cell BK_g6.out 1).trans rfl
      have hf_g6_1:=blk_frozen BK_g6.out 1
      have hx_g6_2 : w17.cell? ⟨g6,2,none⟩ = some (.slice B1 t3.length q1):=(blk_cell BK_g6.out 2).trans rfl
      have hf_g6_2:=blk_frozen BK_g6.out 2
      have hx_g6_3 : w17.cell? ⟨g6,3,none⟩ = some (.slice C1 0 r1):=(blk_cell BK_g6.out 3).trans rfl
      have hf_g6_3:=blk_frozen BK_g6.out 3
      have hx_g6_4 : w17.cell? ⟨g6,4,none⟩ = some (.bool true):=(blk_cell BK_g6.out 4).trans rfl
      have hf_g6_4:=blk_frozen BK_g6.out 4
      have hx_g6_5 : w17.cell? ⟨g6,5,none⟩ = some (.bool false):=(blk_cell BK_g6.out 5).trans rfl
      have hf_g6_5:=blk_frozen BK_g6.out 5
      have hx_g6_6 : w17.cell? ⟨g6,6,none⟩ = some (.bool false):=(blk_cell BK_g6.out 6).trans rfl
      have hf_g6_6:=blk_frozen BK_g6.out 6
      go_wp2_with (first | (go_at_call 15;refine (supply_End.calls 0 _ _ d _ _ t3 _ _ [] true false false (d.length : Int) _ (Kd.R_reads' O_d.out).2.2 (Kd.R_reads' O_d.out).2.1 (Kd.R_reads' O_t.out).2.2 (Kd.R_reads' O_t.out).2.1 (Kd.R_reads' O_c.out).2.2 (Kd.R_reads' O_c.out).2.1 (by unfold supply_End.f;rw [kl,Int.zero_add,kl])).mono ?_;rintro e_ w41 ⟨rfl,hb⟩;clear hx_g6_0 hf_g6_0 hx_g6_1 hf_g6_1 hx_g6_2 hf_g6_2 hx_g6_3 hf_g6_3 hx_g6_4 hf_g6_4 hx_g6_5 hf_g6_5 hx_g6_6 hf_g6_6;have HB2:=Aside0.mk (below_step HB.out hb);have m0_:=Aside0.mk (blk_below BK_g6.out hb);have m1_:=Aside0.mk (Kd.R_below O_d.out hb);have m2_:=Aside0.mk (Kd.R_below O_t.out hb);have m3_:=Aside0.mk (Kd.R_below O_c.out hb);clear HB BK_g6 O_d O_t O_c;have HB:=HB2;have BK_g6:=m0_;have O_d:=m1_;have O_t:=m2_;have O_c:=m3_;clear HB2 m0_ m1_ m2_ m3_ hb;have hx_g6_0 : w41.cell? ⟨g6,0,none⟩ = some (.int .u64 0):=(blk_cell BK_g6.out 0).trans rfl;have hf_g6_0:=blk_frozen BK_g6.out 0;have hx_g6_1 : w41.cell? ⟨g6,1,none⟩ = some (.slice A1 d.length p1):=(blk_cell BK_g6.out 1).trans rfl;have hf_g6_1:=blk_frozen BK_g6.out 1;have hx_g6_2 : w41.cell? ⟨g6,2,none⟩ = some (.slice B1 t3.length q1):=(blk_cell BK_g6.out 2).trans rfl;have hf_g6_2:=blk_frozen BK_g6.out 2;have hx_g6_3 : w41.cell? ⟨g6,3,none⟩ = some (.slice C1 0 r1):=(blk_cell BK_g6.out 3).trans rfl;have hf_g6_3:=blk_frozen BK_g6.out 3;have hx_g6_4 : w41.cell? ⟨g6,4,none⟩ = some (.bool true):=(blk_cell BK_g6.out 4).trans rfl;have hf_g6_4:=blk_frozen BK_g6.out 4;have hx_g6_5 : w41.cell? ⟨g6,5,none⟩ = some (.bool false):=(blk_cell BK_g6.out 5).trans rfl;have hf_g6_5:=blk_frozen BK_g6.out 5;have hx_g6_6 : w41.cell? ⟨g6,6,none⟩ = some (.bool false):=(blk_cell BK_g6.out 6).trans rfl;have hf_g6_6:=blk_frozen BK_g6.out 6) | (go_at_call 16;refine (supply_Done.calls 0 _ _ d _ _ t3 _ _ [] true false false false _ (Kd.R_reads' O_d.out).2.2 (Kd.R_reads' O_d.out).2.1 (Kd.R_reads' O_t.out).2.2 (Kd.R_reads' O_t.out).2.1 (Kd.R_reads' O_c.out).2.2 (Kd.R_reads' O_c.out).2.1 (by first | rfl | simp [supply_Done.f])).mono ?_;rintro e_ w42 ⟨rfl,hb⟩;have HB2:=Aside0.mk (below_step HB.out hb);clear HB;have HB:=HB2;clear HB2 hb))
      go_ret
      exact ⟨rfl,HB.out⟩
     | true =>
      rw [if_neg (by decide)] at hq
      by_cases c7 : finb = false ∧ (d.length : Int) = (o3.length : Int)
      case neg => rw [if_neg c7] at hq;cases hq
      rw [if_pos c7] at hq
      obtain ⟨t2,hC,hq2⟩:=Option.bind_eq_some_iff.mp hq
      clear hq
      have hq:=hq2
      clear hq2
      obtain ⟨rfl,hlen⟩:=c7
      have HC_:=Aside0.mk hC
      have HG:=Aside0.mk hq
      have H8:=Aside0.mk hlen
      clear hC hq hlen
      go_upto_region 26 with (first
       | ((with_reducible refine gate_callee (f:=10) rfl ?_);refine goesL_ (some 91) rfl rfl Try.func10 (by kernel_rfl) rfl #[.agg #[.int .u64 0,.slice A1 d.length p1,.slice B1 t3.length q1,.slice C1 0 r1,.bool true,.bool true,.bool false],.int .i64 a1,.int .u64 1048576] rfl (by (try simp only [List.map_toArray,List.map_cons,List.map_nil]);first | done | rfl) ?_;refine (supply_Next.end 0 _ _ d _ _ t3 _ _ [] true true false a1 1048576 (d.length : Int) (d.length : Int) d.length d.length true t2 [] _ (Kd.R_reads' O_d.out).2.2 (Kd.R_reads' O_d.out).2.1 (Kd.R_reads' O_t.out).2.2 (Kd.R_reads' O_t.out).2.1 (Kd.R_reads' O_c.out).2.2 (Kd.R_reads' O_c.out).2.1 ⟨by have h_:=HD9.out;omega,by have h_:=HL.out;omega,by simp,by decide,by have h_:=HD9.out;omega⟩ rfl HC6.out (by omega) (by omega) (by simp) HC_.out (by omega) (by omega) (Nat.le_refl _) (Nat.le_refl _) (by simp)).mono ?_;rintro e_ w12 ⟨u4,u5,u6,u7,rfl,ho1,ho2,ho3,ho4,hb⟩;refine ⟨_,rfl,?_⟩;have HLX:=Kd.R_lt O_x.out;have HLO:=Kd.R_lt O_o.out;have O_yd:=Aside0.mk (Kd.R_mono (Kd.R_lower (Kd.R_bound (show Kd.R (Kd.int .u8) 5 w12 wr.heap.size _ u4 d from ho1)) HB.out.size) (ok':=(fun k_ => some k_ ≠ ((.slice Ao o3.length po) : Value).ownBlock ∧ some k_ ≠ ((.slice Ax d.length px) : Value).ownBlock)) (fun k_ hk_ => ⟨fun he_ => by have h1_:=HLO k_ he_.symm;have h2_:=hk_.2.1;omega,fun he_ => by have h1_:=HLX k_ he_.symm;have h2_:=hk_.2.1;omega⟩));have O_yt:=Aside0.mk (Kd.R_mono (Kd.R_lower ho2 HB.out.size) (ok':=fun _ => True) (fun _ _ => trivial));have O_yc:=Aside0.mk (Kd.R_mono (Kd.R_lower ho3 HB.out.size) (ok':=fun _ => True) (fun _ _ => trivial));have O_m:=Aside0.mk (Kd.R_mono (Kd.R_lower ho4 HB.out.size) (ok':=fun _ => True) (fun _ _ => trivial));clear ho1 ho2 ho3 ho4 HLX HLO O_d O_t O_c;clear hx_g6_0 hf_g6_0 hx_g6_1 hf_g6_1 hx_g6_2 hf_g6_2 hx_g6_3 hf_g6_3 hx_g6_4 hf_g6_4 hx_g6_5 hf_g6_5 hx_g6_6 hf_g6_6;have n14_:=Aside0.mk (below_step HB.out hb);have n15_:=Aside0.mk (blk_below BK_g6.out hb);have n16_:=Aside0.mk (Kd.R_below O_x.out hb);have n17_:=Aside0.mk (Kd.R_below O_o.out hb);clear HB BK_g6 O_x O_o;have HB:=n14_;have BK_g6:=n15_;have O_x:=n16_;have O_o:=n17_;clear n14_ n15_ n16_ n17_;clear hb;obtain ⟨A3,p3,e1_⟩:=Kd.R_slice O_yd.out;subst e1_;obtain ⟨B3,q3,e2_⟩:=Kd.R_slice O_yt.out;subst e2_;obtain ⟨C3,r3,e3_⟩:=Kd.R_slice O_yc.out;subst e3_;obtain ⟨M3,n3,e4_⟩:=Kd.R_slice O_m.out;subst e4_)
       | ((with_reducible refine gate_dst (N:=17) rfl ?_);refine box_event ?hg (N:=17) ?hd (cs:=#[.int .u64 0,.slice none 0 0,.slice none 0 0,.slice none 0 0,.bool false,.bool false,.bool false]) (t:=27) ?hr ?_;(case hd => rfl);(case hg => rfl);(case hr => first | (go_simp;done) | (go_simp;rfl));intro g17 hg w13 hbox hb;have GE_g17:=Aside0.mk (show w.heap.size ≤ g17 by rw [hg];exact HB.out.size);have NB_g6_g17 : g6 ≠ g17:=(by rw [hg];exact Nat.ne_of_lt (blk_lt BK_g6.out));have NB_g17_g6:=NB_g6_g17.symm;have n18_:=Aside0.mk (below_step HB.out hb);have n19_:=Aside0.mk (blk_below BK_g6.out hb);have n20_:=Aside0.mk (Kd.R_below O_x.out hb);have n21_:=Aside0.mk (Kd.R_below O_o.out hb);have n22_:=Aside0.mk (Kd.R_below O_yd.out hb);have n23_:=Aside0.mk (Kd.R_below O_yt.out hb);have n24_:=Aside0.mk (Kd.R_below O_yc.out hb);have n25_:=Aside0.mk (Kd.R_below O_m.out hb);clear HB BK_g6 O_x O_o O_yd O_yt O_yc O_m;have HB:=n18_;have BK_g6:=n19_;have O_x:=n20_;have O_o:=n21_;have O_yd:=n22_;have O_yt:=n23_;have O_yc:=n24_;have O_m:=n25_;clear n18_ n19_ n20_ n21_ n22_ n23_ n24_ n25_;have BK_g17:=Aside0.mk hbox;clear hbox hb hg)
       | ((with_reducible refine gate_dst (N:=18) rfl ?_);refine box_event ?hg (N:=18) ?hd (cs:=#[.int .u64 0,.slice none 0 0,.bool false]) (t:=32) ?hr ?_;(case hd => rfl);(case hg => rfl);(case hr => first | (go_simp;done) | (go_simp;rfl));intro g18 hg w14 hbox hb;have GE_g18:=Aside0.mk (show w.heap.size ≤ g18 by rw [hg];exact HB.out.size);have NB_g6_g18 : g6 ≠ g18:=(by rw [hg];exact Nat.ne_of_lt (blk_lt BK_g6.out));have NB_g18_g6:=NB_g6_g18.symm;have NB_g17_g18 : g17 ≠ g18:=(by rw [hg];exact Nat.ne_of_lt (blk_lt BK_g17.out));have NB_g18_g17:=NB_g17_g18.symm;have n26_:=Aside0.mk (below_step HB.out hb);have n27_:=Aside0.mk (blk_below BK_g6.out hb);have n28_:=Aside0.mk (blk_below BK_g17.out hb);have n29_:=Aside0.mk (Kd.R_below O_x.out hb);have n30_:=Aside0.mk (Kd.R_below O_o.out hb);have n31_:=Aside0.mk (Kd.R_below O_yd.out hb);have n32_:=Aside0.mk (Kd.R_below O_yt.out hb);have n33_:=Aside0.mk (Kd.R_below O_yc.out hb);have n34_:=Aside0.mk (Kd.R_below O_m.out hb);clear HB BK_g6 BK_g17 O_x O_o O_yd O_yt O_yc O_m;have HB:=n26_;have BK_g6:=n27_;have BK_g17:=n28_;have O_x:=n29_;have O_o:=n30_;have O_yd:=n31_;have O_yt:=n32_;have O_yc:=n33_;have O_m:=n34_;clear n26_ n27_ n28_ n29_ n30_ n31_ n32_ n33_ n34_;have BK_g18:=Aside0.mk hbox;clear hbox hb hg;have hx_g17_0 : w14.cell? ⟨g17,0,none⟩ = some (.int .u64 0):=(blk_cell BK_g17.out 0).trans rfl;have hf_g17_0:=blk_frozen BK_g17.out 0;have hx_g17_1 : w14.cell? ⟨g17,1,none⟩ = some (.slice none 0 0):=(blk_cell BK_g17.out 1).trans rfl;have hf_g17_1:=blk_frozen BK_g17.out 1;have hx_g17_2 : w14.cell? ⟨g17,2,none⟩ = some (.slice none 0 0):=(blk_cell BK_g17.out 2).trans rfl;have hf_g17_2:=blk_frozen BK_g17.out 2;have hx_g17_3 : w14.cell? ⟨g17,3,none⟩ = some (.slice none 0 0):=(blk_cell BK_g17.out 3).trans rfl;have hf_g17_3:=blk_frozen BK_g17.out 3;have hx_g17_4 : w14.cell? ⟨g17,4,none⟩ = some (.bool false):=(blk_cell BK_g17.out 4).trans rfl;have hf_g17_4:=blk_frozen BK_g17.out 4;have hx_g17_5 : w14.cell? ⟨g17,5,none⟩ = some (.bool false):=(blk_cell BK_g17.out 5).trans rfl;have hf_g17_5:=blk_frozen BK_g17.out 5;have hx_g17_6 : w14.cell? ⟨g17,6,none⟩ = some (.bool false):=(blk_cell BK_g17.out 6).trans rfl;have hf_g17_6:=blk_frozen BK_g17.out 6;have hx_g18_0 : w14.cell? ⟨g18,0,none⟩ = some (.int .u64 0):=(blk_cell BK_g18.out 0).trans rfl;have hf_g18_0:=blk_frozen BK_g18.out 0;have hx_g18_1 : w14.cell? ⟨g18,1,none⟩ = some (.slice none 0 0):=(blk_cell BK_g18.out 1).trans rfl;have hf_g18_1:=blk_frozen BK_g18.out 1;have hx_g18_2 : w14.cell? ⟨g18,2,none⟩ = some (.bool false):=(blk_cell BK_g18.out 2).trans rfl;have hf_g18_2:=blk_frozen BK_g18.out 2))
      clear hx_g17_0 hf_g17_0 hx_g17_1 hf_g17_1 hx_g17_2 hf_g17_2 hx_g17_3 hf_g17_3 hx_g17_4 hf_g17_4 hx_g17_5 hf_g17_5 hx_g17_6 hf_g17_6 hx_g18_0 hf_g18_0 hx_g18_1 hf_g18_1 hx_g18_2 hf_g18_2
      obtain ⟨w15,hw35_⟩ : ∃ w_ : World,set7 w14 g17 (.int .u64 0) (.slice A3 d.length p3) (.slice B3 t2.length q3) (.slice C3 0 r3) (.bool true) (.bool false) (.bool false) = w_:=⟨_,rfl⟩
      have n36_:=Aside0.mk (blk7 hw35_ BK_g17.out)
      have n37_:=Aside0.mk (far7 hw35_ NB_g6_g17 BK_g6.out)
      have n38_:=Aside0.mk (far7 hw35_ NB_g18_g17 BK_g18.out)
      have n39_:=Aside0.mk (R7 hw35_ BK_g17.out rfl (by decide) O_x.out)
      have n40_:=Aside0.mk (R7 hw35_ BK_g17.out rfl (by decide) O_o.out)
      have n41_:=Aside0.mk (R7 hw35_ BK_g17.out rfl (by decide) O_yd.out)
      have n42_:=Aside0.mk (R7 hw35_ BK_g17.out rfl (by decide) O_yt.out)
      have n43_:=Aside0.mk (R7 hw35_ BK_g17.out rfl (by decide) O_yc.out)
      have n44_:=Aside0.mk (R7 hw35_ BK_g17.out rfl (by decide) O_m.out)
      have n45_:=Aside0.mk (below7 hw35_ GE_g17.out HB.out)
      rw [set7_fold,hw35_]
      clear hw35_ BK_g17 BK_g6 BK_g18 O_x O_o O_yd O_yt O_yc O_m HB
      have BK_g17:=n36_
      have BK_g6:=n37_
      have BK_g18:=n38_
      have O_x:=n39_
      have O_o:=n40_
      have O_yd:=n41_
      have O_yt:=n42_
      have O_yc:=n43_
      have O_m:=n44_
      have HB:=n45_
      clear n36_ n37_ n38_ n39_ n40_ n41_ n42_ n43_ n44_ n45_
      obtain ⟨w16,hw46_⟩ : ∃ w_ : World,set3 w15 g18 (.int .u64 (d.length : Int)) (.slice M3 0 n3) (.bool true) = w_:=⟨_,rfl⟩
      have n47_:=Aside0.mk (blk3 hw46_ BK_g18.out)
      have n48_:=Aside0.mk (far3 hw46_ NB_g6_g18 BK_g6.out)
      have n49_:=Aside0.mk (far3 hw46_ NB_g17_g18 BK_g17.out)
      have n50_:=Aside0.mk (R3 hw46_ BK_g18.out rfl (by decide) O_x.out)
      have n51_:=Aside0.mk (R3 hw46_ BK_g18.out rfl (by decide) O_o.out)
      have n52_:=Aside0.mk (R3 hw46_ BK_g18.out rfl (by decide) O_yd.out)
      have n53_:=Aside0.mk (R3 hw46_ BK_g18.out rfl (by decide) O_yt.out)
      have n54_:=Aside0.mk (R3 hw46_ BK_g18.out rfl (by decide) O_yc.out)
      have n55_:=Aside0.mk (R3 hw46_ BK_g18.out rfl (by decide) O_m.out)
      have n56_:=Aside0.mk (below3 hw46_ GE_g18.out HB.out)
      rw [set3_fold,hw46_]
      clear hw46_ BK_g18 BK_g6 BK_g17 O_x O_o O_yd O_yt O_yc O_m HB
      have BK_g18:=n47_
      have BK_g6:=n48_
      have BK_g17:=n49_
      have O_x:=n50_
      have O_o:=n51_
      have O_yd:=n52_
      have O_yt:=n53_
      have O_yc:=n54_
      have O_m:=n55_
      have HB:=n56_
      clear n47_ n48_ n49_ n50_ n51_ n52_ n53_ n54_ n55_ n56_
      have hx_g17_0 : w16.cell? ⟨g17,0,none⟩ = some (.int .u64 0):=(blk_cell BK_g17.out 0).trans rfl
      have hf_g17_0:=blk_frozen BK_g17.out 0
      have hx_g17_1 : w16.cell? ⟨g17,1,none⟩ = some (.slice A3 d.length p3):=(blk_cell BK_g17.out 1).trans rfl
      have hf_g17_1:=blk_frozen BK_g17.out 1
      have hx_g17_2 : w16.cell? ⟨g17,2,none⟩ = some (.slice B3 t2.length q3):=(blk_cell BK_g17.out 2).trans rfl
      have hf_g17_2:=blk_frozen BK_g17.out 2
      have hx_g17_3 : w16.cell? ⟨g17,3,none⟩ = some (.slice C3 0 r3):=(blk_cell BK_g17.out 3).trans rfl
      have hf_g17_3:=blk_frozen BK_g17.out 3
      have hx_g17_4 : w16.cell? ⟨g17,4,none⟩ = some (.bool true):=(blk_cell BK_g17.out 4).trans rfl
      have hf_g17_4:=blk_frozen BK_g17.out 4
      have hx_g17_5 : w16.cell? ⟨g17,5,none⟩ = some (.bool false):=(blk_cell BK_g17.out 5).trans rfl
      have hf_g17_5:=blk_frozen BK_g17.out 5
      have hx_g17_6 : w16.cell? ⟨g17,6,none⟩ = some (.bool false):=(blk_cell BK_g17.out 6).trans rfl
      have hf_g17_6:=blk_frozen BK_g17.out 6
      have hx_g18_0 : w16.cell? ⟨g18,0,none⟩ = some (.int .u64 (d.length : Int)):=(blk_cell BK_g18.out 0).trans rfl
      have hf_g18_0:=blk_frozen BK_g18.out 0
      have hx_g18_1 : w16.cell? ⟨g18,1,none⟩ = some (.slice M3 0 n3):=(blk_cell BK_g18.out 1).trans rfl
      have hf_g18_1:=blk_frozen BK_g18.out 1
      have hx_g18_2 : w16.cell? ⟨g18,2,none⟩ = some (.bool true):=(blk_cell BK_g18.out 2).trans rfl
      have hf_g18_2:=blk_frozen BK_g18.out 2
      have hx_g6_0 : w16.cell? ⟨g6,0,none⟩ = some (.int .u64 0):=(blk_cell BK_g6.out 0).trans rfl
      have hf_g6_0:=blk_frozen BK_g6.out 0
      have hx_g6_1 : w16.cell? ⟨g6,1,none⟩ = some (.slice A1 d.length p1):=(blk_cell BK_g6.out 1).trans rfl
      have hf_g6_1:=blk_frozen BK_g6.out 1
      have hx_g6_2 : w16.cell? ⟨g6,2,none⟩ = some (.slice B1 t3.length q1):=(blk_cell BK_g6.out 2).trans rfl
      have hf_g6_2:=blk_frozen BK_g6.out 2
      have hx_g6_3 : w16.cell? ⟨g6,3,none⟩ = some (.slice C1 0 r1):=(blk_cell BK_g6.out 3).trans rfl
      have hf_g6_3:=blk_frozen BK_g6.out 3
      have hx_g6_4 : w16.cell? ⟨g6,4,none⟩ = some (.bool true):=(blk_cell BK_g6.out 4).trans rfl
      have hf_g6_4:=blk_frozen BK_g6.out 4
      have hx_g6_5 : w16.cell? ⟨g6,5,none⟩ = some (.bool true):=(blk_cell BK_g6.out 5).trans rfl
      have hf_g6_5:=blk_frozen BK_g6.out 5
      have hx_g6_6 : w16.cell? ⟨g6,6,none⟩ = some (.bool false):=(blk_cell BK_g6.out 6).trans rfl
      have hf_g6_6:=blk_frozen BK_g6.out 6
      go_upto_region 27 with fail
      clear hx_g17_0 hf_g17_0 hx_g17_1 hf_g17_1 hx_g17_2 hf_g17_2 hx_g17_3 hf_g17_3 hx_g17_4 hf_g17_4 hx_g17_5 hf_g17_5 hx_g17_6 hf_g17_6 hx_g18_0 hf_g18_0 hx_g18_1 hf_g18_1 hx_g18_2 hf_g18_2 hx_g6_0 hf_g6_0 hx_g6_1 hf_g6_1 hx_g6_2 hf_g6_2 hx_g6_3 hf_g6_3 hx_g6_4 hf_g6_4 hx_g6_5 hf_g6_5 hx_g6_6 hf_g6_6
      obtain ⟨w17,hw57_⟩ : ∃ w_ : World,set7 w16 g6 (.int .u64 0) (.slice A3 d.length p3) (.slice B3 t2.length q3) (.slice C3 0 r3) (.bool true) (.bool false) (.bool false) = w_:=⟨_,rfl⟩
      have n58_:=Aside0.mk (blk7 hw57_ BK_g6.out)
      have n59_:=Aside0.mk (far7 hw57_ NB_g17_g6 BK_g17.out)
      have n60_:=Aside0.mk (far7 hw57_ NB_g18_g6 BK_g18.out)
      have n61_:=Aside0.mk (R7 hw57_ BK_g6.out rfl (by decide) O_x.out)
      have n62_:=Aside0.mk (R7 hw57_ BK_g6.out rfl (by decide) O_o.out)
      have n63_:=Aside0.mk (R7 hw57_ BK_g6.out rfl (by decide) O_yd.out)
      have n64_:=Aside0.mk (R7 hw57_ BK_g6.out rfl (by decide) O_yt.out)
      have n65_:=Aside0.mk (R7 hw57_ BK_g6.out rfl (by decide) O_yc.out)
      have n66_:=Aside0.mk (R7 hw57_ BK_g6.out rfl (by decide) O_m.out)
      have n67_:=Aside0.mk (below7 hw57_ GE_g6.out HB.out)
      rw [set7_fold,hw57_]
      clear hw57_ BK_g6 BK_g17 BK_g18 O_x O_o O_yd O_yt O_yc O_m HB
      have BK_g6:=n58_
      have BK_g17:=n59_
      have BK_g18:=n60_
      have O_x:=n61_
      have O_o:=n62_
      have O_yd:=n63_
      have O_yt:=n64_
      have O_yc:=n65_
      have O_m:=n66_
      have HB:=n67_
      clear n58_ n59_ n60_ n61_ n62_ n63_ n64_ n65_ n66_ n67_
      have hx_g6_0 : w17.cell? ⟨g6,0,none⟩ = some (.int .u64 0):=(blk_cell BK_g6.out 0).trans rfl
      have hf_g6_0:=blk_frozen BK_g6.out 0
      have hx_g6_1 : w17.cell? ⟨g6,1,none⟩ = some (.slice A3 d.length p3):=(blk_cell BK_g6.out 1).trans rfl
      have hf_g6_1:=blk_frozen BK_g6.out 1
      have hx_g6_2 : w17.cell? ⟨g6,2,none⟩ = some (.slice B3 t2.length q3):=(blk_cell BK_g6.out 2).trans rfl
      have hf_g6_2:=blk_frozen BK_g6.out 2
      have hx_g6_3 : w17.cell? ⟨g6,3,none⟩ = some (.slice C3 0 r3):=(blk_cell BK_g6.out 3).trans rfl
      have hf_g6_3:=blk_frozen BK_g6.out 3
      have hx_g6_4 : w17.cell? ⟨g6,4,none⟩ = some (.bool true):=(blk_cell BK_g6.out 4).trans rfl
      have hf_g6_4:=blk_frozen BK_g6.out 4
      have hx_g6_5 : w17.cell? ⟨g6,5,none⟩ = some (.bool false):=(blk_cell BK_g6.out 5).trans rfl
      have hf_g6_5:=blk_frozen BK_g6.out 5
      have hx_g6_6 : w17.cell? ⟨g6,6,none⟩ = some (.bool false):=(blk_cell BK_g6.out 6).trans rfl
      have hf_g6_6:=blk_frozen BK_g6.out 6
      have hx_g18_0 : w17.cell? ⟨g18,0,none⟩ = some (.int .u64 (d.length : Int)):=(blk_cell BK_g18.out 0).trans rfl
      have hf_g18_0:=blk_frozen BK_g18.out 0
      have hx_g18_1 : w17.cell? ⟨g18,1,none⟩ = some (.slice M3 0 n3):=(blk_cell BK_g18.out 1).trans rfl
      have hf_g18_1:=blk_frozen BK_g18.out 1
      have hx_g18_2 : w17.cell? ⟨g18,2,none⟩ = some (.bool true):=(blk_cell BK_g18.out 2).trans rfl
      have hf_g18_2:=blk_frozen BK_g18.out 2
      have ko : IntKind.u64.wrap (o3.length : Int) = (d.length : Int):=by rw [← H8.out,IntKind.wrap_u64];have h_:=HD9.out;omega
      have kp : ((d.length : Int) != (d.length : Int)) = false:=by simp
      go_upto_region 30 with fail
      have HAL:=Aside0.mk (show (o3.length + ([] : List Int).length) * 1 ≤ 140737488355328 by have h_:=HL.out;simp;omega)
      go_wp2_with ((with_reducible refine gate_builtin (b:=.append) (xs:=#[.tmp 107,.tmp 109]) rfl ?_);at_builtin;refine Kd.R_append_rows (Kd.int .u8) (w0:=w) w.heap.size rfl (.tmp 107) (.tmp 109) 22 5 (.int .u8 0) 1 rfl Try.underlying22 info5 rfl (by decide) (by omega) (.slice Ao o3.length po) o3 ([] : List Int) _ _ _ (fun k_ => True ∧ some k_ ≠ ((.slice Ax d.length px) : Value).ownBlock) (fun _ => False) rfl rfl ?aO ?aR (fun _ _ h => h) (fun _ h => h.elim) ?aF ?aB ?aS ?aL ?_;(case aR => exact (Kd.R_reads' O_m.out).2.2);(case aB => exact HB.out);(case aF => exact fun k_ hk_ => ⟨trivial,fun he_ => absurd (Kd.R_lt O_x.out k_ he_.symm) (Nat.not_lt.mpr hk_)⟩);(case aO => exact O_o.out);(case aS => exact HB.out.size);(case aL => have h_:=HAL.out;omega);intro vo2 w18 ho hb hg hat;clear O_m;rw [List.append_nil] at ho;clear hx_g6_0 hf_g6_0 hx_g6_1 hf_g6_1 hx_g6_2 hf_g6_2 hx_g6_3 hf_g6_3 hx_g6_4 hf_g6_4 hx_g6_5 hf_g6_5 hx_g6_6 hf_g6_6 hx_g18_0 hf_g18_0 hx_g18_1 hf_g18_1 hx_g18_2 hf_g18_2;have n68_:=Aside0.mk (hb);have n69_:=Aside0.mk (blk_grown BK_g6.out hg (Kd.R_ne O_o.out BK_g6.out (by decide)));have n70_:=Aside0.mk (blk_grown BK_g17.out hg (Kd.R_ne O_o.out BK_g17.out (by decide)));have n71_:=Aside0.mk (blk_grown BK_g18.out hg (Kd.R_ne O_o.out BK_g18.out (by decide)));have n72_:=Aside0.mk (Kd.R_after (v:=(.slice Ao o3.length po)) (ok:=fun _ => True) O_x.out hg hat);have n73_:=Aside0.mk (Kd.R_mono (Kd.R_after (v:=(.slice Ao o3.length po)) (ok:=fun k_ => some k_ ≠ ((.slice Ax d.length px) : Value).ownBlock) (Kd.R_mono O_yd.out (fun _ h => ⟨h.2,h.1⟩)) hg hat) (ok':=(fun k_ => some k_ ≠ (vo2 : Value).ownBlock ∧ some k_ ≠ ((.slice Ax d.length px) : Value).ownBlock)) (fun _ h => ⟨h.2,h.1⟩));have n74_:=Aside0.mk (Kd.R_over' (v:=(.slice Ao o3.length po)) O_yt.out (Kd.R_typed O_o.out) (by decide) hg);have n75_:=Aside0.mk (Kd.R_over' (v:=(.slice Ao o3.length po)) O_yc.out (Kd.R_typed O_o.out) (by decide) hg);clear HB BK_g6 BK_g17 BK_g18 O_x O_yd O_yt O_yc;have HB:=n68_;have BK_g6:=n69_;have BK_g17:=n70_;have BK_g18:=n71_;have O_x:=n72_;have O_yd:=n73_;have O_yt:=n74_;have O_yc:=n75_;clear n68_ n69_ n70_ n71_ n72_ n73_ n74_ n75_;replace O_o:=Aside0.mk ho;clear ho hb hg hat;have hx_g18_0 : w18.cell? ⟨g18,0,none⟩ = some (.int .u64 (d.length : Int)):=(blk_cell BK_g18.out 0).trans rfl;have hf_g18_0:=blk_frozen BK_g18.out 0;have hx_g18_1 : w18.cell? ⟨g18,1,none⟩ = some (.slice M3 0 n3):=(blk_cell BK_g18.out 1).trans rfl;have hf_g18_1:=blk_frozen BK_g18.out 1;have hx_g18_2 : w18.cell? ⟨g18,2,none⟩ = some (.bool true):=(blk_cell BK_g18.out 2).trans rfl;have hf_g18_2:=blk_frozen BK_g18.out 2)
      go_roundg k1
      case measure => omega
      case rel => exact ⟨wrap64 (i2 + 1),t2,false,true,o3,_,_,_,_,rfl,rfl,(by first | rfl | simp only [hw2]),⟨by have h2:=HI2.out;rw [hw2];omega⟩,HG,O_yd,O_yt,O_yc,O_x,O_o,BK_g6,HB⟩
    case neg =>
     rw [if_neg c6] at hq
     obtain ⟨x,hx,hq2⟩:=Option.bind_eq_some_iff.mp hq
     clear hq
     have hq:=hq2
     clear hq2
     unfold once_tell at hx
     obtain ⟨off,hoff⟩ : ∃ y_ : Int,(rd_T37 t3 0).f0 = y_:=⟨_,rfl⟩
     obtain ⟨tq,htq⟩ : ∃ y_ : Int,mn (rd_T37 t3 0).f1 1048576 = y_:=⟨_,rfl⟩
     rw [hoff,htq] at hx
     obtain ⟨mz,hmz⟩ : ∃ y_ : Int,IntKind.u64.wrap (off + IntKind.u64.wrap a1) = y_:=⟨_,rfl⟩
     rw [hmz] at hx
     obtain ⟨tz,htz⟩ : ∃ y_ : Int,mn tq mz = y_:=⟨_,rfl⟩
     rw [htz] at hx
     by_cases c7 : off < tq ∧ 0 ≤ off ∧ off ≤ tz ∧ tz ≤ (d.length : Int)
     case neg => rw [if_neg c7] at hx;cases hx
     rw [if_pos c7] at hx
     obtain ⟨t2,hC,hx⟩:=Option.bind_eq_some_iff.mp hx
     obtain rfl:=Option.some.inj hx
     dsimp only at hq
     obtain ⟨m,hm⟩ : ∃ y_ : List Int,y_ = (d.take tz.toNat).drop off.toNat:=⟨_,rfl⟩
     rw [← hm] at hq
     obtain ⟨cfv,hcf⟩ : ∃ y_ : Bool,(ftb && (tz == (d.length : Int))) = y_:=⟨_,rfl⟩
     rw [hcf] at hq
     obtain ⟨f5,hf5⟩ : ∃ y_ : Bool,(ftb && !cfv) = y_:=⟨_,rfl⟩
     rw [hf5] at hq
     by_cases c8 : finb = false ∧ off = (o3.length : Int)
     case neg => rw [if_neg c8] at hq;cases hq
     rw [if_pos c8] at hq
     obtain ⟨rfl,c8⟩:=c8
     have hml : m.length ≤ d.length:=by rw [hm,List.length_drop,List.length_take];omega
     have HG:=Aside0.mk hq
     have HN:=Aside0.mk (show 0 < t3.length by omega)
     have H7:=Aside0.mk c7
     have H8:=Aside0.mk c8
     have HOFF:=Aside0.mk hoff
     have HTQ:=Aside0.mk htq
     have HMZ:=Aside0.mk hmz
     have HTZ:=Aside0.mk htz
     have HC_:=Aside0.mk hC
     have HM:=Aside0.mk hm
     have HML:=Aside0.mk hml
     have HCF:=Aside0.mk hcf
     have HF5:=Aside0.mk hf5
     clear hq c6 c7 c8 hoff htq hmz htz hC hm hml hcf hf5
     go_upto_region 26 with (first
      | ((with_reducible refine gate_callee (f:=10) rfl ?_);refine goesL_ (some 91) rfl rfl Try.func10 (by kernel_rfl) rfl #[.agg #[.int .u64 0,.slice A1 d.length p1,.slice B1 t3.length q1,.slice C1 0 r1,.bool true,.bool ftb,.bool false],.int .i64 a1,.int .u64 1048576] rfl (by (try simp only [List.map_toArray,List.map_cons,List.map_nil]);first | done | rfl) ?_;refine (supply_Next.part_ 0 _ _ d _ _ t3 _ _ [] true ftb false a1 1048576 off tz off.toNat tz.toNat cfv t2 m tq mz _ (Kd.R_reads' O_d.out).2.2 (Kd.R_reads' O_d.out).2.1 (Kd.R_reads' O_t.out).2.2 (Kd.R_reads' O_t.out).2.1 (Kd.R_reads' O_c.out).2.2 (Kd.R_reads' O_c.out).2.1 ⟨by have h_:=HD9.out;omega,by have h_:=HL.out;omega,by simp,by decide,by have h_:=HD9.out;omega⟩ HN.out HA1.out HOFF.out HTQ.out H7.out.1 HMZ.out HTZ.out HM.out HC_.out (by have h_:=H7.out;omega) (by have h_:=H7.out;omega) (by have h_:=H7.out;omega) (by have h_:=H7.out;omega) (by rw [← HCF.out,Int.zero_add])).mono ?_;rintro e_ w12 ⟨u4,u5,u6,u7,rfl,ho1,ho2,ho3,ho4,hb⟩;rw [HF5.out];refine ⟨_,rfl,?_⟩;have HLX:=Kd.R_lt O_x.out;have HLO:=Kd.R_lt O_o.out;have O_yd:=Aside0.mk (Kd.R_mono (Kd.R_lower (Kd.R_bound (show Kd.R (Kd.int .u8) 5 w12 wr.heap.size _ u4 d from ho1)) HB.out.size) (ok':=(fun k_ => some k_ ≠ ((.slice Ao o3.length po) : Value).ownBlock ∧ some k_ ≠ ((.slice Ax d.length px) : Value).ownBlock)) (fun k_ hk_ => ⟨fun he_ => by have h1_:=HLO k_ he_.symm;have h2_:=hk_.2.1;omega,fun he_ => by have h1_:=HLX k_ he_.symm;have h2_:=hk_.2.1;omega⟩));have O_yt:=Aside0.mk (Kd.R_mono (Kd.R_lower ho2 HB.out.size) (ok':=fun _ => True) (fun _ _ => trivial));have O_yc:=Aside0.mk (Kd.R_mono (Kd.R_lower ho3 HB.out.size) (ok':=fun _ => True) (fun _ _ => trivial));have O_m:=Aside0.mk (Kd.R_mono (Kd.R_lower ho4 HB.out.size) (ok':=fun _ => True) (fun _ _ => trivial));clear ho1 ho2 ho3 ho4 HLX HLO O_d O_t O_c;clear hx_g6_0 hf_g6_0 hx_g6_1 hf_g6_1 hx_g6_2 hf_g6_2 hx_g6_3 hf_g6_3 hx_g6_4 hf_g6_4 hx_g6_5 hf_g6_5 hx_g6_6 hf_g6_6;have n14_:=Aside0.mk (below_step HB.out hb);have n15_:=Aside0.mk (blk_below BK_g6.out hb);have n16_:=Aside0.mk (Kd.R_below O_x.out hb);have n17_:=Aside0.mk (Kd.R_below O_o.out hb);clear HB BK_g6 O_x O_o;have HB:=n14_;have BK_g6:=n15_;have O_x:=n16_;have O_o:=n17_;clear n14_ n15_ n16_ n17_;clear hb;obtain ⟨A3,p3,e1_⟩:=Kd.R_slice O_yd.out;subst e1_;obtain ⟨B3,q3,e2_⟩:=Kd.R_slice O_yt.out;subst e2_;obtain ⟨C3,r3,e3_⟩:=Kd.R_slice O_yc.out;subst e3_;obtain ⟨M3,n3,e4_⟩:=Kd.R_slice O_m.out;subst e4_)
      | ((with_reducible refine gate_dst (N:=17) rfl ?_);refine box_event ?hg (N:=17) ?hd (cs:=#[.int .u64 0,.slice none 0 0,.slice none 0 0,.slice none 0 0,.bool false,.bool false,.bool false]) (t:=27) ?hr ?_;(case hd => rfl);(case hg => rfl);(case hr => first | (go_simp;done) | (go_simp;rfl));intro g17 hg w13 hbox hb;have GE_g17:=Aside0.mk (show w.heap.size ≤ g17 by rw [hg];exact HB.out.size);have NB_g6_g17 : g6 ≠ g17:=(by rw [hg];exact Nat.ne_of_lt (blk_lt BK_g6.out));have NB_g17_g6:=NB_g6_g17.symm;have n18_:=Aside0.mk (below_step HB.out hb);have n19_:=Aside0.mk (blk_below BK_g6.out hb);have n20_:=Aside0.mk (Kd.R_below O_x.out hb);have n21_:=Aside0.mk (Kd.R_below O_o.out hb);have n22_:=Aside0.mk (Kd.R_below O_yd.out hb);have n23_:=Aside0.mk (Kd.R_below O_yt.out hb);have n24_:=Aside0.mk (Kd.R_below O_yc.out hb);have n25_:=Aside0.mk (Kd.R_below O_m.out hb);clear HB BK_g6 O_x O_o O_yd O_yt O_yc O_m;have HB:=n18_;have BK_g6:=n19_;have O_x:=n20_;have O_o:=n21_;have O_yd:=n22_;have O_yt:=n23_;have O_yc:=n24_;have O_m:=n25_;clear n18_ n19_ n20_ n21_ n22_ n23_ n24_ n25_;have BK_g17:=Aside0.mk hbox;clear hbox hb hg)
      | ((with_reducible refine gate_dst (N:=18) rfl ?_);refine box_event ?hg (N:=18) ?hd (cs:=#[.int .u64 0,.slice none 0 0,.bool false]) (t:=32) ?hr ?_;(case hd => rfl);(case hg => rfl);(case hr => first | (go_simp;done) | (go_simp;rfl));intro g18 hg w14 hbox hb;have GE_g18:=Aside0.mk (show w.heap.size ≤ g18 by rw [hg];exact HB.out.size);have NB_g6_g18 : g6 ≠ g18:=(by rw [hg];exact Nat.ne_of_lt (blk_lt BK_g6.out));have NB_g18_g6:=NB_g6_g18.symm;have NB_g17_g18 : g17 ≠ g18:=(by rw [hg];exact Nat.ne_of_lt (blk_lt BK_g17.out));have NB_g18_g17:=NB_g17_g18.symm;have n26_:=Aside0.mk (below_step HB.out hb);have n27_:=Aside0.mk (blk_below BK_g6.out hb);have n28_:=Aside0.mk (blk_below BK_g17.out hb);have n29_:=Aside0.mk (Kd.R_below O_x.out hb);have n30_:=Aside0.mk (Kd.R_below O_o.out hb);have n31_:=Aside0.mk (Kd.R_below O_yd.out hb);have n32_:=Aside0.mk (Kd.R_below O_yt.out hb);have n33_:=Aside0.mk (Kd.R_below O_yc.out hb);have n34_:=Aside0.mk (Kd.R_below O_m.out hb);clear HB BK_g6 BK_g17 O_x O_o O_yd O_yt O_yc O_m;have HB:=n26_;have BK_g6:=n27_;have BK_g17:=n28_;have O_x:=n29_;have O_o:=n30_;have O_yd:=n31_;have O_yt:=n32_;have O_yc:=n33_;have O_m:=n34_;clear n26_ n27_ n28_ n29_ n30_ n31_ n32_ n33_ n34_;have BK_g18:=Aside0.mk hbox;clear hbox hb hg;have hx_g17_0 : w14.cell? ⟨g17,0,none⟩ = some (.int .u64 0):=(blk_cell BK_g17.out 0).trans rfl;have hf_g17_0:=blk_frozen BK_g17.out 0;have hx_g17_1 : w14.cell? ⟨g17,1,none⟩ = some (.slice none 0 0):=(blk_cell BK_g17.out 1).trans rfl;have hf_g17_1:=blk_frozen BK_g17.out 1;have hx_g17_2 : w14.cell? ⟨g17,2,none⟩ = some (.slice none 0 0):=(blk_cell BK_g17.out 2).trans rfl;have hf_g17_2:=blk_frozen BK_g17.out 2;have hx_g17_3 : w14.cell? ⟨g17,3,none⟩ = some (.slice none 0 0):=(blk_cell BK_g17.out 3).trans rfl;have hf_g17_3:=blk_frozen BK_g17.out 3;have hx_g17_4 : w14.cell? ⟨g17,4,none⟩ = some (.bool false):=(blk_cell BK_g17.out 4).trans rfl;have hf_g17_4:=blk_frozen BK_g17.out 4;have hx_g17_5 : w14.cell? ⟨g17,5,none⟩ = some (.bool false):=(blk_cell BK_g17.out 5).trans rfl;have hf_g17_5:=blk_frozen BK_g17.out 5;have hx_g17_6 : w14.cell? ⟨g17,6,none⟩ = some (.bool false):=(blk_cell BK_g17.out 6).trans rfl;have hf_g17_6:=blk_frozen BK_g17.out 6;have hx_g18_0 : w14.cell? ⟨g18,0,none⟩ = some (.int .u64 0):=(blk_cell BK_g18.out 0).trans rfl;have hf_g18_0:=blk_frozen BK_g18.out 0;have hx_g18_1 : w14.cell? ⟨g18,1,none⟩ = some (.slice none 0 0):=(blk_cell BK_g18.out 1).trans rfl;have hf_g18_1:=blk_frozen BK_g18.out 1;have hx_g18_2 : w14.cell? ⟨g18,2,none⟩ = some (.bool false):=(blk_cell BK_g18.out 2).trans rfl;have hf_g18_2:=blk_frozen BK_g18.out 2))
     clear hx_g17_0 hf_g17_0 hx_g17_1 hf_g17_1 hx_g17_2 hf_g17_2 hx_g17_3 hf_g17_3 hx_g17_4 hf_g17_4 hx_g17_5 hf_g17_5 hx_g17_6 hf_g17_6 hx_g18_0 hf_g18_0 hx_g18_1 hf_g18_1 hx_g18_2 hf_g18_2
     obtain ⟨w15,hw35_⟩ : ∃ w_ : World,set7 w14 g17 (.int .u64 0) (.slice A3 d.length p3) (.slice B3 t2.length q3) (.slice C3 0 r3) (.bool true) (.bool f5) (.bool false) = w_:=⟨_,rfl⟩
     have n36_:=Aside0.mk (blk7 hw35_ BK_g17.out)
     have n37_:=Aside0.mk (far7 hw35_ NB_g6_g17 BK_g6.out)
     have n38_:=Aside0.mk (far7 hw35_ NB_g18_g17 BK_g18.out)
     have n39_:=Aside0.mk (R7 hw35_ BK_g17.out rfl (by decide) O_x.out)
     have n40_:=Aside0.mk (R7 hw35_ BK_g17.out rfl (by decide) O_o.out)
     have n41_:=Aside0.mk (R7 hw35_ BK_g17.out rfl (by decide) O_yd.out)
     have n42_:=Aside0.mk (R7 hw35_ BK_g17.out rfl (by decide) O_yt.out)
     have n43_:=Aside0.mk (R7 hw35_ BK_g17.out rfl (by decide) O_yc.out)
     have n44_:=Aside0.mk (R7 hw35_ BK_g17.out rfl (by decide) O_m.out)
     have n45_:=Aside0.mk (below7 hw35_ GE_g17.out HB.out)
     rw [set7_fold,hw35_]
     clear hw35_ BK_g17 BK_g6 BK_g18 O_x O_o O_yd O_yt O_yc O_m HB
     have BK_g17:=n36_
     have BK_g6:=n37_
     have BK_g18:=n38_
     have O_x:=n39_
     have O_o:=n40_
     have O_yd:=n41_
     have O_yt:=n42_
     have O_yc:=n43_
     have O_m:=n44_
     have HB:=n45_
     clear n36_ n37_ n38_ n39_ n40_ n41_ n42_ n43_ n44_ n45_
     obtain ⟨w16,hw46_⟩ : ∃ w_ : World,set3 w15 g18 (.int .u64 off) (.slice M3 m.length n3) (.bool cfv) = w_:=⟨_,rfl⟩
     have n47_:=Aside0.mk (blk3 hw46_ BK_g18.out)
     have n48_:=Aside0.mk (far3 hw46_ NB_g6_g18 BK_g6.out)
     have n49_:=Aside0.mk (far3 hw46_ NB_g17_g18 BK_g17.out)
     have n50_:=Aside0.mk (R3 hw46_ BK_g18.out rfl (by decide) O_x.out)
     have n51_:=Aside0.mk (R3 hw46_ BK_g18.out rfl (by decide) O_o.out)
     have n52_:=Aside0.mk (R3 hw46_ BK_g18.out rfl (by decide) O_yd.out)
     have n53_:=Aside0.mk (R3 hw46_ BK_g18.out rfl (by decide) O_yt.out)
     have n54_:=Aside0.mk (R3 hw46_ BK_g18.out rfl (by decide) O_yc.out)
     have n55_:=Aside0.mk (R3 hw46_ BK_g18.out rfl (by decide) O_m.out)
     have n56_:=Aside0.mk (below3 hw46_ GE_g18.out HB.out)
     rw [set3_fold,hw46_]
     clear hw46_ BK_g18 BK_g6 BK_g17 O_x O_o O_yd O_yt O_yc O_m HB
     have BK_g18:=n47_
     have BK_g6:=n48_
     have BK_g17:=n49_
     have O_x:=n50_
     have O_o:=n51_
     have O_yd:=n52_
     have O_yt:=n53_
     have O_yc:=n54_
     have O_m:=n55_
     have HB:=n56_
     clear n47_ n48_ n49_ n50_ n51_ n52_ n53_ n54_ n55_ n56_
     have hx_g17_0 : w16.cell? ⟨g17,0,none⟩ = some (.int .u64 0):=(blk_cell BK_g17.out 0).trans rfl
     have hf_g17_0:=blk_frozen BK_g17.out 0
     have hx_g17_1 : w16.cell? ⟨g17,1,none⟩ = some (.slice A3 d.length p3):=(blk_cell BK_g17.out 1).trans rfl
     have hf_g17_1:=blk_frozen BK_g17.out 1
     have hx_g17_2 : w16.cell? ⟨g17,2,none⟩ = some (.slice B3 t2.length q3):=(blk_cell BK_g17.out 2).trans rfl
     have hf_g17_2:=blk_frozen BK_g17.out 2
     have hx_g17_3 : w16.cell? ⟨g17,3,none⟩ = some (.slice C3 0 r3):=(blk_cell BK_g17.out 3).trans rfl
     have hf_g17_3:=blk_frozen BK_g17.out 3
     have hx_g17_4 : w16.cell? ⟨g17,4,none⟩ = some (.bool true):=(blk_cell BK_g17.out 4).trans rfl
     have hf_g17_4:=blk_frozen BK_g17.out 4
     have hx_g17_5 : w16.cell? ⟨g17,5,none⟩ = some (.bool f5):=(blk_cell BK_g17.out 5).trans rfl
     have hf_g17_5:=blk_frozen BK_g17.out 5
     have hx_g17_6 : w16.cell? ⟨g17,6,none⟩ = some (.bool false):=(blk_cell BK_g17.out 6).trans rfl
     have hf_g17_6:=blk_frozen BK_g17.out 6
     have hx_g18_0 : w16.cell? ⟨g18,0,none⟩ = some (.int .u64 off):=(blk_cell BK_g18.out 0).trans rfl
     have hf_g18_0:=blk_frozen BK_g18.out 0
     have hx_g18_1 : w16.cell? ⟨g18,1,none⟩ = some (.slice M3 m.length n3):=(blk_cell BK_g18.out 1).trans rfl
     have hf_g18_1:=blk_frozen BK_g18.out 1
     have hx_g18_2 : w16.cell? ⟨g18,2,none⟩ = some (.bool cfv):=(blk_cell BK_g18.out 2).trans rfl
     have hf_g18_2:=blk_frozen BK_g18.out 2
     have hx_g6_0 : w16.cell? ⟨g6,0,none⟩ = some (.int .u64 0):=(blk_cell BK_g6.out 0).trans rfl
     have hf_g6_0:=blk_frozen BK_g6.out 0
     have hx_g6_1 : w16.cell? ⟨g6,1,none⟩ = some (.slice A1 d.length p1):=(blk_cell BK_g6.out 1).trans rfl
     have hf_g6_1:=blk_frozen BK_g6.out 1
     have hx_g6_2 : w16.cell? ⟨g6,2,none⟩ = some (.slice B1 t3.length q1):=(blk_cell BK_g6.out 2).trans rfl
     have hf_g6_2:=blk_frozen BK_g6.out 2
     have hx_g6_3 : w16.cell? ⟨g6,3,none⟩ = some (.slice C1 0 r1):=(blk_cell BK_g6.out 3).trans rfl
     have hf_g6_3:=blk_frozen BK_g6.out 3
     have hx_g6_4 : w16.cell? ⟨g6,4,none⟩ = some (.bool true):=(blk_cell BK_g6.out 4).trans rfl
     have hf_g6_4:=blk_frozen BK_g6.out 4
     have hx_g6_5 : w16.cell? ⟨g6,5,none⟩ = some (.bool ftb):=(blk_cell BK_g6.out 5).trans rfl
     have hf_g6_5:=blk_frozen BK_g6.out 5
     have hx_g6_6 : w16.cell? ⟨g6,6,none⟩ = some (.bool false):=(blk_cell BK_g6.out 6).trans rfl
     have hf_g6_6:=blk_frozen BK_g6.out 6
     go_upto_region 27 with fail
     clear hx_g17_0 hf_g17_0 hx_g17_1 hf_g17_1 hx_g17_2 hf_g17_2 hx_g17_3 hf_g17_3 hx_g17_4 hf_g17_4 hx_g17_5 hf_g17_5 hx_g17_6 hf_g17_6 hx_g18_0 hf_g18_0 hx_g18_1 hf_g18_1 hx_g18_2 hf_g18_2 hx_g6_0 hf_g6_0 hx_g6_1 hf_g6_1 hx_g6_2 hf_g6_2 hx_g6_3 hf_g6_3 hx_g6_4 hf_g6_4 hx_g6_5 hf_g6_5 hx_g6_6 hf_g6_6
     obtain ⟨w17,hw57_⟩ : ∃ w_ : World,set7 w16 g6 (.int .u64 0) (.slice A3 d.length p3) (.slice B3 t2.length q3) (.slice C3 0 r3) (.bool true) (.bool f5) (.bool false) = w_:=⟨_,rfl⟩
     have n58_:=Aside0.mk (blk7 hw57_ BK_g6.out)
     have n59_:=Aside0.mk (far7 hw57_ NB_g17_g6 BK_g17.out)
     have n60_:=Aside0.mk (far7 hw57_ NB_g18_g6 BK_g18.out)
     have n61_:=Aside0.mk (R7 hw57_ BK_g6.out rfl (by decide) O_x.out)
     have n62_:=Aside0.mk (R7 hw57_ BK_g6.out rfl (by decide) O_o.out)
     have n63_:=Aside0.mk (R7 hw57_ BK_g6.out rfl (by decide) O_yd.out)
     have n64_:=Aside0.mk (R7 hw57_ BK_g6.out rfl (by decide) O_yt.out)
     have n65_:=Aside0.mk (R7 hw57_ BK_g6.out rfl (by decide) O_yc.out)
     have n66_:=Aside0.mk (R7 hw57_ BK_g6.out rfl (by decide) O_m.out)
     have n67_:=Aside0.mk (below7 hw57_ GE_g6.out HB.out)
     rw [set7_fold,hw57_]
     clear hw57_ BK_g6 BK_g17 BK_g18 O_x O_o O_yd O_yt O_yc O_m HB
     have BK_g6:=n58_
     have BK_g17:=n59_
     have BK_g18:=n60_
     have O_x:=n61_
     have O_o:=n62_
     have O_yd:=n63_
     have O_yt:=n64_
     have O_yc:=n65_
     have O_m:=n66_
     have HB:=n67_
     clear n58_ n59_ n60_ n61_ n62_ n63_ n64_ n65_ n66_ n67_
     have hx_g6_0 : w17.cell? ⟨g6,0,none⟩ = some (.int .u64 0):=(blk_cell BK_g6.out 0).trans rfl
     have hf_g6_0:=blk_frozen BK_g6.out 0
     have hx_g6_1 : w17.cell? ⟨g6,1,none⟩ = some (.slice A3 d.length p3):=(blk_cell BK_g6.out 1).trans rfl
     have hf_g6_1:=blk_frozen BK_g6.out 1
     have hx_g6_2 : w17.cell? ⟨g6,2,none⟩ = some (.slice B3 t2.length q3):=(blk_cell BK_g6.out 2).trans rfl
     have hf_g6_2:=blk_frozen BK_g6.out 2
     have hx_g6_3 : w17.cell? ⟨g6,3,none⟩ = some (.slice C3 0 r3):=(blk_cell BK_g6.out 3).trans rfl
     have hf_g6_3:=blk_frozen BK_g6.out 3
     have hx_g6_4 : w17.cell? ⟨g6,4,none⟩ = some (.bool true):=(blk_cell BK_g6.out 4).trans rfl
     have hf_g6_4:=blk_frozen BK_g6.out 4
     have hx_g6_5 : w17.cell? ⟨g6,5,none⟩ = some (.bool f5):=(blk_cell BK_g6.out 5).trans rfl
     have hf_g6_5:=blk_frozen BK_g6.out 5
     have hx_g6_6 : w17.cell? ⟨g6,6,none⟩ = some (.bool false):=(blk_cell BK_g6.out 6).trans rfl
     have hf_g6_6:=blk_frozen BK_g6.out 6
     have hx_g18_0 : w17.cell? ⟨g18,0,none⟩ = some (.int .u64 off):=(blk_cell BK_g18.out 0).trans rfl
     have hf_g18_0:=blk_frozen BK_g18.out 0
     have hx_g18_1 : w17.cell? ⟨g18,1,none⟩ = some (.slice M3 m.length n3):=(blk_cell BK_g18.out 1).trans rfl
     have hf_g18_1:=blk_frozen BK_g18.out 1
     have hx_g18_2 : w17.cell? ⟨g18,2,none⟩ = some (.bool cfv):=(blk_cell BK_g18.out 2).trans rfl
     have hf_g18_2:=blk_frozen BK_g18.out 2
     have ko : IntKind.u64.wrap (o3.length : Int) = off:=by rw [H8.out,IntKind.wrap_u64];have h_:=HL.out;omega
     have kp : (off != off) = false:=by simp
     go_upto_region 30 with fail
     have HAL:=Aside0.mk (show (o3.length + m.length) * 1 ≤ 140737488355328 by have h_:=HL.out;have h2_:=HML.out;have h3_:=HD9.out;omega)
     go_wp2_with ((with_reducible refine gate_builtin (b:=.append) (xs:=#[.tmp 107,.tmp 109]) rfl ?_);at_builtin;refine Kd.R_append_rows (Kd.int .u8) (w0:=w) w.heap.size rfl (.tmp 107) (.tmp 109) 22 5 (.int .u8 0) 1 rfl Try.underlying22 info5 rfl (by decide) (by omega) (.slice Ao o3.length po) o3 m _ _ _ (fun k_ => True ∧ some k_ ≠ ((.slice Ax d.length px) : Value).ownBlock) (fun _ => False) rfl rfl ?aO ?aR (fun _ _ h => h) (fun _ h => h.elim) ?aF ?aB ?aS ?aL ?_;(case aR => exact (Kd.R_reads' O_m.out).2.2);(case aB => exact HB.out);(case aF => exact fun k_ hk_ => ⟨trivial,fun he_ => absurd (Kd.R_lt O_x.out k_ he_.symm) (Nat.not_lt.mpr hk_)⟩);(case aO => exact O_o.out);(case aS => exact HB.out.size);(case aL => have h_:=HAL.out;omega);intro vo2 w18 ho hb hg hat;clear O_m;clear hx_g6_0 hf_g6_0 hx_g6_1 hf_g6_1 hx_g6_2 hf_g6_2 hx_g6_3 hf_g6_3 hx_g6_4 hf_g6_4 hx_g6_5 hf_g6_5 hx_g6_6 hf_g6_6 hx_g18_0 hf_g18_0 hx_g18_1 hf_g18_1 hx_g18_2 hf_g18_2;have n68_:=Aside0.mk (hb);have n69_:=Aside0.mk (blk_grown BK_g6.out hg (Kd.R_ne O_o.out BK_g6.out (by decide)));have n70_:=Aside0.mk (blk_grown BK_g17.out hg (Kd.R_ne O_o.out BK_g17.out (by decide)));have n71_:=Aside0.mk (blk_grown BK_g18.out hg (Kd.R_ne O_o.out BK_g18.out (by decide)));have n72_:=Aside0.mk (Kd.R_after (v:=(.slice Ao o3.length po)) (ok:=fun _ => True) O_x.out hg hat);have n73_:=Aside0.mk (Kd.R_mono (Kd.R_after (v:=(.slice Ao o3.length po)) (ok:=fun k_ => some k_ ≠ ((.slice Ax d.length px) : Value).ownBlock) (Kd.R_mono O_yd.out (fun _ h => ⟨h.2,h.1⟩)) hg hat) (ok':=(fun k_ => some k_ ≠ (vo2 : Value).ownBlock ∧ some k_ ≠ ((.slice Ax d.length px) : Value).ownBlock)) (fun _ h => ⟨h.2,h.1⟩));have n74_:=Aside0.mk (Kd.R_over' (v:=(.slice Ao o3.length po)) O_yt.out (Kd.R_typed O_o.out) (by decide) hg);have n75_:=Aside0.mk (Kd.R_over' (v:=(.slice Ao o3.length po)) O_yc.out (Kd.R_typed O_o.out) (by decide) hg);clear HB BK_g6 BK_g17 BK_g18 O_x O_yd O_yt O_yc;have HB:=n68_;have BK_g6:=n69_;have BK_g17:=n70_;have BK_g18:=n71_;have O_x:=n72_;have O_yd:=n73_;have O_yt:=n74_;have O_yc:=n75_;clear n68_ n69_ n70_ n71_ n72_ n73_ n74_ n75_;replace O_o:=Aside0.mk ho;clear ho hb hg hat;have hx_g18_0 : w18.cell? ⟨g18,0,none⟩ = some (.int .u64 off):=(blk_cell BK_g18.out 0).trans rfl;have hf_g18_0:=blk_frozen BK_g18.out 0;have hx_g18_1 : w18.cell? ⟨g18,1,none⟩ = some (.slice M3 m.length n3):=(blk_cell BK_g18.out 1).trans rfl;have hf_g18_1:=blk_frozen BK_g18.out 1;have hx_g18_2 : w18.cell? ⟨g18,2,none⟩ = some (.bool cfv):=(blk_cell BK_g18.out 2).trans rfl;have hf_g18_2:=blk_frozen BK_g18.out 2)
     go_roundg k1
     case measure => omega
     case rel => exact ⟨wrap64 (i2 + 1),t2,f5,cfv,o3 ++ m,_,_,_,_,rfl,rfl,(by first | rfl | simp only [hw2]),⟨by have h2:=HI2.out;rw [hw2];omega⟩,HG,O_yd,O_yt,O_yc,O_x,O_o,BK_g6,HB⟩

end Go.Proofs.Ytadhkamocbhbmaa.P
