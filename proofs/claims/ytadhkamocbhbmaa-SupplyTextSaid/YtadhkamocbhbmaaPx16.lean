-- Printed for this claim by xprint.py of this session: contracts of this session's own stand in for what the print does not take
import Derived.Test.YtadhkamocbhbmaaPx0
import Derived.Test.YtadhkamocbhbmaaPx2
import Derived.Test.YtadhkamocbhbmaaPx6
import Derived.Test.YtadhkamocbhbmaaPx7
import Derived.Test.YtadhkamocbhbmaaPx9
import Derived.Test.YtadhkamocbhbmaaPx12
import Derived.Test.YtadhkamocbhbmaaPx14
import Derived.Test.YtadhkamocbhbmaaPx15
namespace Go.Proofs.Ytadhkamocbhbmaa.P
open Go.RowKit Go.Proofs.YtadhkamocbhbmaaW.PrintWords Go.Proofs.YtadhkamocbhbmaaW.PrintLast Go.Proofs.YtadhkamocbhbmaaW.PrintMore
attribute [local go_sem] max2_int min2_int max_two min_two max_three min_three max_four min_four   -- for this text's walks alone
set_option linter.unusedVariables false
set_option linter.unusedSimpArgs false

/-! ### wigwaglaw18_awake: function 8 -/
/-- A constant's bytes: the row,and the run time's mark behind its last cell. -/
theorem lit_mark {P : Program} {ops : Array Oper} {rest : List Oper} {o o2 : Oper} {a : Act} {Q : Exit → Act → World → Prop} {W : World} (t e : TypeId) (ht : P.underlying t = some (.slice e)) (he : P.underlying e = some (.int .u8)) (hgd : o.guard = none) {N : Tmp} (hd : o.dst = some N) (xs : List Int) (inner : List Value)
  (hl : inner = xs.map (Value.int .u8) ∧ xs.length ≤ 9223372036854775807)
  (hrun : (execOp a.eval o).run P W = .ok (.value (.slice (some ⟨W.heap.size,0,none⟩) xs.length xs.length)) (W.alloc (.cells inner.toArray e)))
  (hgd2 : o2.guard = none) (hop : ∀ W' : World,(execOp (a.put (some N) (.slice (some ⟨W.heap.size,0,none⟩) xs.length xs.length)).eval o2).run P W' = ((convert t t (.slice (some ⟨W.heap.size,0,none⟩) xs.length xs.length)).run P W').andThen fun b w' => .ok (.value b) w')
  (h : ∀ A w1,Kd.C (Kd.int .u8) w1 A xs.length xs → Below W.heap.size W w1 → wpList P ops Q rest ((a.put (some N) (.slice A xs.length xs.length)).put o2.dst (.slice A xs.length xs.length)) w1) : wpList P ops Q (o :: o2 :: rest) a W:=by
 refine Kd.event_run hgd hrun ?_
 rw [hd]
 refine Kd.event_run hgd2 (w1:=W.alloc (.cells inner.toArray e (inner.toArray.size,inner.toArray.size + 1))) ?_ (h _ _ ?_ (below_alloc (Below.refl _ _) _))
 ·rw [hop,Lib.run_convert_bytes_const W t e inner.toArray _ _ ht he]
  rfl
 ·refine ⟨rfl,hl.2,fun _ => ⟨_,rfl,fun j p hj => ⟨[.int .u8 p],rfl,rfl,fun i u hu => ?_⟩⟩⟩
  obtain ⟨hjl,hp⟩:=List.getElem?_eq_some_iff.1 hj
  have hi : i = 0:=by
   have:=(List.getElem?_eq_some_iff.1 hu).1
   simpa using this
  subst hi
  have hu' : u = .int .u8 p:=by simpa using hu.symm
  subst hu' hp
  have hx : (W.alloc (.cells inner.toArray e (inner.toArray.size,inner.toArray.size + 1))).heap[W.heap.size]? = some (.cells inner.toArray e (inner.toArray.size,inner.toArray.size + 1)):=by
   show (W.heap.push _)[W.heap.size]? = _
   simp
  have hz : (⟨W.heap.size,0,none⟩ : Addr).add (j * (Kd.int .u8).sz + 0) = ⟨W.heap.size,j,none⟩:=by
   show (⟨W.heap.size,0,none⟩ : Addr).add (j * 1 + 0) = _
   by_cases hj0 : j = 0
   ·subst hj0;simp [Addr.add]
   ·simp [Addr.add,hj0]
  rw [hz]
  unfold World.cell?
  rw [hx]
  simp [hl.1,hjl]
def wigwaglaw18_awake.f : Option Bool:=some true
set_option maxHeartbeats 8000000 in
set_option maxRecDepth 100000 in
theorem wigwaglaw18_awake.calls (r : Bool) (w : World) (h : wigwaglaw18_awake.f = some r) : Calls Try.prog 8 #[] w fun e w' => e = .returned (.bool r) ∧ Below w.heap.size w w':=by
 obtain rfl:=Option.some.inj h
 clear h
 obtain ⟨y1,hv_y1⟩ : ∃ y_ : List Int,y_ = [97,98,99,100]:=⟨_,rfl⟩
 obtain ⟨y2,hv_y2⟩ : ∃ y_ : List Int,y_ = [120]:=⟨_,rfl⟩
 obtain ⟨d1,hv_d1⟩ : ∃ y_ : List Int,y_ = [97,98,99,100]:=⟨_,rfl⟩
 obtain ⟨t1,hv_t1⟩ : ∃ y_ : List S37,y_ = [⟨0,4⟩]:=⟨_,rfl⟩
 obtain ⟨c1,hv_c1⟩ : ∃ y_ : List S37,y_ = []:=⟨_,rfl⟩
 obtain ⟨d2,hv_d2⟩ : ∃ y_ : List Int,y_ = [97,98,99,100]:=⟨_,rfl⟩
 obtain ⟨t2,hv_t2⟩ : ∃ y_ : List S37,y_ = [⟨3,4⟩]:=⟨_,rfl⟩
 obtain ⟨c2,hv_c2⟩ : ∃ y_ : List S37,y_ = []:=⟨_,rfl⟩
 obtain ⟨m1,hv_m1⟩ : ∃ y_ : List Int,y_ = [97,98,99]:=⟨_,rfl⟩
 obtain ⟨d3,hv_d3⟩ : ∃ y_ : List Int,y_ = [97,98,99,100]:=⟨_,rfl⟩
 obtain ⟨t3,hv_t3⟩ : ∃ y_ : List S37,y_ = [⟨3,4⟩]:=⟨_,rfl⟩
 obtain ⟨c3,hv_c3⟩ : ∃ y_ : List S37,y_ = []:=⟨_,rfl⟩
 obtain ⟨d5,hv_d5⟩ : ∃ y_ : List Int,y_ = [97,98,99,100]:=⟨_,rfl⟩
 obtain ⟨t5,hv_t5⟩ : ∃ y_ : List S37,y_ = []:=⟨_,rfl⟩
 obtain ⟨c5,hv_c5⟩ : ∃ y_ : List S37,y_ = []:=⟨_,rfl⟩
 obtain ⟨m2,hv_m2⟩ : ∃ y_ : List Int,y_ = [100]:=⟨_,rfl⟩
 obtain ⟨d6,hv_d6⟩ : ∃ y_ : List Int,y_ = [97,98,99,100]:=⟨_,rfl⟩
 obtain ⟨t6,hv_t6⟩ : ∃ y_ : List S37,y_ = [⟨0,3⟩]:=⟨_,rfl⟩
 obtain ⟨c6,hv_c6⟩ : ∃ y_ : List S37,y_ = []:=⟨_,rfl⟩
 obtain ⟨d7,hv_d7⟩ : ∃ y_ : List Int,y_ = [97,98,99,100]:=⟨_,rfl⟩
 obtain ⟨t7,hv_t7⟩ : ∃ y_ : List S37,y_ = [⟨2,3⟩]:=⟨_,rfl⟩
 obtain ⟨c7,hv_c7⟩ : ∃ y_ : List S37,y_ = []:=⟨_,rfl⟩
 obtain ⟨m3,hv_m3⟩ : ∃ y_ : List Int,y_ = [97,98]:=⟨_,rfl⟩
 obtain ⟨d8,hv_d8⟩ : ∃ y_ : List Int,y_ = [97,98,99,100]:=⟨_,rfl⟩
 obtain ⟨t8,hv_t8⟩ : ∃ y_ : List S37,y_ = []:=⟨_,rfl⟩
 obtain ⟨c8,hv_c8⟩ : ∃ y_ : List S37,y_ = [⟨3,4⟩]:=⟨_,rfl⟩
 obtain ⟨d9,hv_d9⟩ : ∃ y_ : List Int,y_ = []:=⟨_,rfl⟩
 obtain ⟨t9,hv_t9⟩ : ∃ y_ : List S37,y_ = []:=⟨_,rfl⟩
 obtain ⟨c9,hv_c9⟩ : ∃ y_ : List S37,y_ = []:=⟨_,rfl⟩
 have P1 : Aside0 (supply_Write.f 20 0 [] [] [] false false false y1 = some (0,d1,t1,c1,false,false,false,0)):=⟨by rw [hv_y1,hv_d1,hv_t1,hv_c1];kernel_rfl⟩
 have Q2a : Aside0 (0 < t1.length):=⟨by rw [hv_t1];decide⟩
 have Q2b : Aside0 ((rd_T37 t1 0).f0 = 0):=⟨by rw [hv_t1];kernel_rfl⟩
 have Q2c : Aside0 (mn (rd_T37 t1 0).f1 99 = 4):=⟨by rw [hv_t1];kernel_rfl⟩
 have Q2d : Aside0 (IntKind.u64.wrap (0 + IntKind.u64.wrap 3) = 3):=⟨by kernel_rfl⟩
 have Q2e : Aside0 (mn 4 3 = 3):=⟨by kernel_rfl⟩
 have Q2f : Aside0 (m1 = (d1.take 3).drop 0):=⟨by rw [hv_m1,hv_d1];kernel_rfl⟩
 have Q2g : Aside0 (span_Cut.f t1 0 3 = some t2):=⟨by rw [hv_t1,hv_t2];kernel_rfl⟩
 have Q2h : Aside0 (3 ≤ d1.length):=⟨by rw [hv_d1];decide⟩
 have Q2l : Aside0 (d1.length < 1000000000 ∧ t1.length < 1000000000 ∧ c1.length < 1000000000 ∧ (0 : Int) ≤ 0 ∧ 0 + (d1.length : Int) ≤ 4611686018427387904):=⟨by rw [hv_d1,hv_t1,hv_c1];decide⟩
 have Q2k : Aside0 (false = (false && ((3 : Int) == 0 + (d1.length : Int)))):=⟨by rw [hv_d1];kernel_rfl⟩
 have E2d : Aside0 (d1 = d2):=⟨by rw [hv_d1,hv_d2]⟩
 have E2c : Aside0 (c1 = c2):=⟨by rw [hv_c1,hv_c2]⟩
 have P3 : Aside0 (supply_Finish.f 0 d2 t2 c2 false false false = some (0,d3,t3,c3,true,true,false)):=⟨by rw [hv_d2,hv_t2,hv_c2,hv_d3,hv_t3,hv_c3];kernel_rfl⟩
 have P4 : Aside0 (d3.length < 1000000000 ∧ (0 : Int) ≤ 0 ∧ 0 + (d3.length : Int) ≤ 1048576):=⟨by rw [hv_d3];decide⟩
 have Q5a : Aside0 (0 < t3.length):=⟨by rw [hv_t3];decide⟩
 have Q5b : Aside0 ((rd_T37 t3 0).f0 = 3):=⟨by rw [hv_t3];kernel_rfl⟩
 have Q5c : Aside0 (mn (rd_T37 t3 0).f1 99 = 4):=⟨by rw [hv_t3];kernel_rfl⟩
 have Q5d : Aside0 (IntKind.u64.wrap (3 + IntKind.u64.wrap 3) = 6):=⟨by kernel_rfl⟩
 have Q5e : Aside0 (mn 4 6 = 4):=⟨by kernel_rfl⟩
 have Q5f : Aside0 (m2 = (d3.take 4).drop 3):=⟨by rw [hv_m2,hv_d3];kernel_rfl⟩
 have Q5g : Aside0 (span_Cut.f t3 3 4 = some t5):=⟨by rw [hv_t3,hv_t5];kernel_rfl⟩
 have Q5h : Aside0 (4 ≤ d3.length):=⟨by rw [hv_d3];decide⟩
 have Q5l : Aside0 (d3.length < 1000000000 ∧ t3.length < 1000000000 ∧ c3.length < 1000000000 ∧ (0 : Int) ≤ 0 ∧ 0 + (d3.length : Int) ≤ 4611686018427387904):=⟨by rw [hv_d3,hv_t3,hv_c3];decide⟩
 have Q5k : Aside0 (true = (true && ((4 : Int) == 0 + (d3.length : Int)))):=⟨by rw [hv_d3];kernel_rfl⟩
 have E5d : Aside0 (d3 = d5):=⟨by rw [hv_d3,hv_d5]⟩
 have E5c : Aside0 (c3 = c5):=⟨by rw [hv_c3,hv_c5]⟩
 have P6 : Aside0 (supply_Lost.f 20 0 d5 t5 c5 true false false 0 m1 false = some (0,d6,t6,c6,true,false,false)):=⟨by rw [hv_d5,hv_t5,hv_c5,hv_m1,hv_d6,hv_t6,hv_c6];kernel_rfl⟩
 have Q7a : Aside0 (0 < t6.length):=⟨by rw [hv_t6];decide⟩
 have Q7b : Aside0 ((rd_T37 t6 0).f0 = 0):=⟨by rw [hv_t6];kernel_rfl⟩
 have Q7c : Aside0 (mn (rd_T37 t6 0).f1 99 = 3):=⟨by rw [hv_t6];kernel_rfl⟩
 have Q7d : Aside0 (IntKind.u64.wrap (0 + IntKind.u64.wrap 2) = 2):=⟨by kernel_rfl⟩
 have Q7e : Aside0 (mn 3 2 = 2):=⟨by kernel_rfl⟩
 have Q7f : Aside0 (m3 = (d6.take 2).drop 0):=⟨by rw [hv_m3,hv_d6];kernel_rfl⟩
 have Q7g : Aside0 (span_Cut.f t6 0 2 = some t7):=⟨by rw [hv_t6,hv_t7];kernel_rfl⟩
 have Q7h : Aside0 (2 ≤ d6.length):=⟨by rw [hv_d6];decide⟩
 have Q7l : Aside0 (d6.length < 1000000000 ∧ t6.length < 1000000000 ∧ c6.length < 1000000000 ∧ (0 : Int) ≤ 0 ∧ 0 + (d6.length : Int) ≤ 4611686018427387904):=⟨by rw [hv_d6,hv_t6,hv_c6];decide⟩
 have Q7k : Aside0 (false = (false && ((2 : Int) == 0 + (d6.length : Int)))):=⟨by rw [hv_d6];kernel_rfl⟩
 have E7d : Aside0 (d6 = d7):=⟨by rw [hv_d6,hv_d7]⟩
 have E7c : Aside0 (c6 = c7):=⟨by rw [hv_c6,hv_c7]⟩
 have P8 : Aside0 (supply_Came.f 20 0 d5 t5 c5 true false false 3 m2 true = some (0,d8,t8,c8,true,false,true)):=⟨by rw [hv_d5,hv_t5,hv_c5,hv_m2,hv_d8,hv_t8,hv_c8];kernel_rfl⟩
 have P9 : Aside0 (supply_Came.f 20 0 d8 t8 c8 true false true 0 m1 false = some (4,d9,t9,c9,true,false,true)):=⟨by rw [hv_d8,hv_t8,hv_c8,hv_m1,hv_d9,hv_t9,hv_c9];kernel_rfl⟩
 have P10 : Aside0 (supply_Done.f 4 d9 t9 c9 true false true = some true):=⟨by rw [hv_d9,hv_t9,hv_c9];kernel_rfl⟩
 have P11 : Aside0 (supply_End.f 4 d9 t9 c9 true false true = some 4):=⟨by rw [hv_d9,hv_t9,hv_c9];kernel_rfl⟩
 have Y_y1:=Aside0.mk hv_y1
 have Y_y2:=Aside0.mk hv_y2
 have Y_m1:=Aside0.mk hv_m1
 have Y_m3:=Aside0.mk hv_m3
 clear hv_y1 hv_y2 hv_d1 hv_t1 hv_c1 hv_d2 hv_t2 hv_c2 hv_m1 hv_d3 hv_t3 hv_c3 hv_d5 hv_t5 hv_c5 hv_m2 hv_d6 hv_t6 hv_c6 hv_d7 hv_t7 hv_c7 hv_m3 hv_d8 hv_t8 hv_c8 hv_d9 hv_t9 hv_c9
 have HB:=Aside0.mk (Below.refl w.heap.size w)
 go_enter Try.func8,Try.ntmps8
 go_upto_region 2 with (first
  | ((with_reducible refine gate_dst (N:=15) rfl ?_);refine lit_mark 22 5 Try.underlying22 Try.underlying5 ?hg (N:=15) ?hd y1 [.int .u8 97,.int .u8 98,.int .u8 99,.int .u8 100] ?hl ?hr ?hg2 ?hp ?_;(case hd => rfl);(case hg => rfl);(case hg2 => rfl);(case hl => exact ⟨by rw [Y_y1.out];rfl,by rw [Y_y1.out];simp⟩);(case hr => rw [Y_y1.out];first | (go_simp;done) | (go_simp;rfl));(case hp => intro W_;first | (go_simp;done) | (go_simp;rfl));intro Ay1 w1 C_y1 hb;have n1_:=Aside0.mk (below_step HB.out hb);clear HB;have HB:=n1_;clear n1_;clear hb)
  | ((with_reducible refine gate_callee (f:=9) rfl ?_);refine goesL_ (some 17) rfl rfl Try.func9 (by kernel_rfl) rfl #[.agg #[.int .u64 0,.slice none 0 0,.slice none 0 0,.slice none 0 0,.bool false,.bool false,.bool false],.slice Ay1 y1.length y1.length] rfl (by (try simp only [List.map_toArray,List.map_cons,List.map_nil]);first | done | rfl) ?_;refine (supply_Write.calls 20 0 none 0 [] none 0 [] none 0 [] false false false Ay1 y1.length y1 _ _ _ _ _ _ _ _ _ (Kd.C_nil _ _) (Nat.le_refl _) (Kd.C_nil _ _) (Nat.le_refl _) (Kd.C_nil _ _) (Nat.le_refl _) C_y1 (Nat.le_refl _) P1.out).mono ?_;rintro e_ w2 ⟨u1,u2,u3,rfl,ho1,ho2,ho3,hb⟩;refine ⟨_,rfl,?_⟩;have O_d1:=Aside0.mk ((Kd.R_mono (Kd.R_lower ho1 HB.out.size) (fun _ _ => trivial)));have O_t1:=Aside0.mk ((Kd.R_mono (Kd.R_lower ho2 HB.out.size) (fun _ _ => trivial)));have O_c1:=Aside0.mk ((Kd.R_mono (Kd.R_lower ho3 HB.out.size) (fun _ _ => trivial)));clear ho1 ho2 ho3;have n2_:=Aside0.mk (below_step HB.out hb);clear HB;have HB:=n2_;clear n2_;clear hb;obtain ⟨A1,p1,eo⟩:=Kd.R_slice O_d1.out;subst eo;obtain ⟨B1,q1,eo⟩:=Kd.R_slice O_t1.out;subst eo;obtain ⟨C1,r1,eo⟩:=Kd.R_slice O_c1.out;subst eo)
  | ((with_reducible refine gate_dst (N:=1) rfl ?_);refine box_event ?hg (N:=1) ?hd (cs:=#[.int .u64 0,.slice none 0 0,.slice none 0 0,.slice none 0 0,.bool false,.bool false,.bool false]) (t:=27) ?hr ?_;(case hd => rfl);(case hg => rfl);(case hr => first | (go_simp;done) | (go_simp;rfl));intro g1 hg w3 hbox hb;have GE_g1:=Aside0.mk (show w.heap.size ≤ g1 by rw [hg];exact HB.out.size);have n3_:=Aside0.mk (below_step HB.out hb);have n4_:=Aside0.mk (Kd.R_below O_d1.out hb);have n5_:=Aside0.mk (Kd.R_below O_t1.out hb);have n6_:=Aside0.mk (Kd.R_below O_c1.out hb);clear HB O_d1 O_t1 O_c1;have HB:=n3_;have O_d1:=n4_;have O_t1:=n5_;have O_c1:=n6_;clear n3_ n4_ n5_ n6_;have BK_g1:=Aside0.mk hbox;clear hbox hb hg;obtain ⟨hx_g1_0,hf_g1_0,hx_g1_1,hf_g1_1,hx_g1_2,hf_g1_2,hx_g1_3,hf_g1_3,hx_g1_4,hf_g1_4,hx_g1_5,hf_g1_5,hx_g1_6,hf_g1_6⟩:=cells7 BK_g1.out))
 clear hx_g1_0 hf_g1_0 hx_g1_1 hf_g1_1 hx_g1_2 hf_g1_2 hx_g1_3 hf_g1_3 hx_g1_4 hf_g1_4 hx_g1_5 hf_g1_5 hx_g1_6 hf_g1_6
 obtain ⟨w4,hw7_⟩ : ∃ w_ : World,set7 w3 g1 (.int .u64 0) (.slice A1 d1.length p1) (.slice B1 t1.length q1) (.slice C1 c1.length r1) (.bool false) (.bool false) (.bool false) = w_:=⟨_,rfl⟩
 have n8_:=Aside0.mk (blk7 hw7_ BK_g1.out)
 have n9_:=Aside0.mk (R7 hw7_ BK_g1.out rfl (by decide) O_d1.out)
 have n10_:=Aside0.mk (R7 hw7_ BK_g1.out rfl (by decide) O_t1.out)
 have n11_:=Aside0.mk (R7 hw7_ BK_g1.out rfl (by decide) O_c1.out)
 have n12_:=Aside0.mk (below7 hw7_ GE_g1.out HB.out)
 rw [set7_fold,hw7_]
 clear hw7_ BK_g1 O_d1 O_t1 O_c1 HB
 have BK_g1:=n8_
 have O_d1:=n9_
 have O_t1:=n10_
 have O_c1:=n11_
 have HB:=n12_
 clear n8_ n9_ n10_ n11_ n12_
 obtain ⟨hx_g1_0,hf_g1_0,hx_g1_1,hf_g1_1,hx_g1_2,hf_g1_2,hx_g1_3,hf_g1_3,hx_g1_4,hf_g1_4,hx_g1_5,hf_g1_5,hx_g1_6,hf_g1_6⟩:=cells7 BK_g1.out
 go_upto_region 3 with (first
  | ((with_reducible refine gate_callee (f:=10) rfl ?_);refine goesL_ (some 22) rfl rfl Try.func10 (by kernel_rfl) rfl #[.agg #[.int .u64 0,.slice A1 d1.length p1,.slice B1 t1.length q1,.slice C1 c1.length r1,.bool false,.bool false,.bool false],.int .i64 3,.int .u64 99] rfl (by (try simp only [List.map_toArray,List.map_cons,List.map_nil]);first | done | rfl) ?_;refine (supply_Next.part_ 0 _ _ d1 _ _ t1 _ _ c1 false false false 3 99 0 3 0 3 false t2 m1 4 3 _ (Kd.R_reads' O_d1.out).2.2 (Kd.R_reads' O_d1.out).2.1 (Kd.R_reads' O_t1.out).2.2 (Kd.R_reads' O_t1.out).2.1 (Kd.R_reads' O_c1.out).2.2 (Kd.R_reads' O_c1.out).2.1 Q2l.out Q2a.out (by decide) Q2b.out Q2c.out (by decide) Q2d.out Q2e.out Q2f.out Q2g.out (by decide) (by decide) (by decide) Q2h.out Q2k.out).mono ?_;rintro e_ w5 ⟨u1,u2,u3,u4,rfl,ho1,ho2,ho3,ho4,hb⟩;refine ⟨_,rfl,?_⟩;have O_d2:=Aside0.mk ((Kd.R_mono (Kd.R_lower ho1 HB.out.size) (fun _ _ => trivial)));have O_t2:=Aside0.mk ((Kd.R_mono (Kd.R_lower ho2 HB.out.size) (fun _ _ => trivial)));have O_c2:=Aside0.mk ((Kd.R_mono (Kd.R_lower ho3 HB.out.size) (fun _ _ => trivial)));rw [E2d.out] at O_d2;rw [E2c.out] at O_c2;have O_m1:=Aside0.mk (Kd.R_mono (Kd.R_lower ho4 HB.out.size) (fun _ _ => trivial));clear ho1 ho2 ho3 ho4;clear hx_g1_0 hf_g1_0 hx_g1_1 hf_g1_1 hx_g1_2 hf_g1_2 hx_g1_3 hf_g1_3 hx_g1_4 hf_g1_4 hx_g1_5 hf_g1_5 hx_g1_6 hf_g1_6;have n13_:=Aside0.mk (below_step HB.out hb);have n14_:=Aside0.mk (blk_below BK_g1.out hb);have n15_:=Aside0.mk (Kd.R_below O_d1.out hb);have n16_:=Aside0.mk (Kd.R_below O_t1.out hb);have n17_:=Aside0.mk (Kd.R_below O_c1.out hb);clear HB BK_g1 O_d1 O_t1 O_c1;have HB:=n13_;have BK_g1:=n14_;have O_d1:=n15_;have O_t1:=n16_;have O_c1:=n17_;clear n13_ n14_ n15_ n16_ n17_;clear hb;obtain ⟨A2,p2,eo⟩:=Kd.R_slice O_d2.out;subst eo;obtain ⟨B2,q2,eo⟩:=Kd.R_slice O_t2.out;subst eo;obtain ⟨C2,r2,eo⟩:=Kd.R_slice O_c2.out;subst eo;obtain ⟨Mm1,nm1,eo⟩:=Kd.R_slice O_m1.out;subst eo;clear O_d1 O_t1 O_c1)
  | ((with_reducible refine gate_dst (N:=3) rfl ?_);refine box_event ?hg (N:=3) ?hd (cs:=#[.int .u64 0,.slice none 0 0,.bool false]) (t:=32) ?hr ?_;(case hd => rfl);(case hg => rfl);(case hr => first | (go_simp;done) | (go_simp;rfl));intro g3 hg w6 hbox hb;have GE_g3:=Aside0.mk (show w.heap.size ≤ g3 by rw [hg];exact HB.out.size);have NB_g1_g3 : g1 ≠ g3:=(by rw [hg];exact Nat.ne_of_lt (blk_lt BK_g1.out));have NB_g3_g1:=NB_g1_g3.symm;have n18_:=Aside0.mk (below_step HB.out hb);have n19_:=Aside0.mk (blk_below BK_g1.out hb);have n20_:=Aside0.mk (Kd.R_below O_d2.out hb);have n21_:=Aside0.mk (Kd.R_below O_t2.out hb);have n22_:=Aside0.mk (Kd.R_below O_c2.out hb);have n23_:=Aside0.mk (Kd.R_below O_m1.out hb);clear HB BK_g1 O_d2 O_t2 O_c2 O_m1;have HB:=n18_;have BK_g1:=n19_;have O_d2:=n20_;have O_t2:=n21_;have O_c2:=n22_;have O_m1:=n23_;clear n18_ n19_ n20_ n21_ n22_ n23_;have BK_g3:=Aside0.mk hbox;clear hbox hb hg;obtain ⟨hx_g1_0,hf_g1_0,hx_g1_1,hf_g1_1,hx_g1_2,hf_g1_2,hx_g1_3,hf_g1_3,hx_g1_4,hf_g1_4,hx_g1_5,hf_g1_5,hx_g1_6,hf_g1_6⟩:=cells7 BK_g1.out;obtain ⟨hx_g3_0,hf_g3_0,hx_g3_1,hf_g3_1,hx_g3_2,hf_g3_2⟩:=cells3 BK_g3.out))
 clear hx_g1_0 hf_g1_0 hx_g1_1 hf_g1_1 hx_g1_2 hf_g1_2 hx_g1_3 hf_g1_3 hx_g1_4 hf_g1_4 hx_g1_5 hf_g1_5 hx_g1_6 hf_g1_6 hx_g3_0 hf_g3_0 hx_g3_1 hf_g3_1 hx_g3_2 hf_g3_2
 obtain ⟨w7,hw24_⟩ : ∃ w_ : World,set7 w6 g1 (.int .u64 0) (.slice A2 d2.length p2) (.slice B2 t2.length q2) (.slice C2 c2.length r2) (.bool false) (.bool false) (.bool false) = w_:=⟨_,rfl⟩
 have n25_:=Aside0.mk (blk7 hw24_ BK_g1.out)
 have n26_:=Aside0.mk (far7 hw24_ NB_g3_g1 BK_g3.out)
 have n27_:=Aside0.mk (R7 hw24_ BK_g1.out rfl (by decide) O_d2.out)
 have n28_:=Aside0.mk (R7 hw24_ BK_g1.out rfl (by decide) O_t2.out)
 have n29_:=Aside0.mk (R7 hw24_ BK_g1.out rfl (by decide) O_c2.out)
 have n30_:=Aside0.mk (R7 hw24_ BK_g1.out rfl (by decide) O_m1.out)
 have n31_:=Aside0.mk (below7 hw24_ GE_g1.out HB.out)
 rw [set7_fold,hw24_]
 clear hw24_ BK_g1 BK_g3 O_d2 O_t2 O_c2 O_m1 HB
 have BK_g1:=n25_
 have BK_g3:=n26_
 have O_d2:=n27_
 have O_t2:=n28_
 have O_c2:=n29_
 have O_m1:=n30_
 have HB:=n31_
 clear n25_ n26_ n27_ n28_ n29_ n30_ n31_
 obtain ⟨w8,hw32_⟩ : ∃ w_ : World,set3 w7 g3 (.int .u64 0) (.slice Mm1 m1.length nm1) (.bool false) = w_:=⟨_,rfl⟩
 have n33_:=Aside0.mk (blk3 hw32_ BK_g3.out)
 have n34_:=Aside0.mk (far3 hw32_ NB_g1_g3 BK_g1.out)
 have n35_:=Aside0.mk (R3 hw32_ BK_g3.out rfl (by decide) O_d2.out)
 have n36_:=Aside0.mk (R3 hw32_ BK_g3.out rfl (by decide) O_t2.out)
 have n37_:=Aside0.mk (R3 hw32_ BK_g3.out rfl (by decide) O_c2.out)
 have n38_:=Aside0.mk (R3 hw32_ BK_g3.out rfl (by decide) O_m1.out)
 have n39_:=Aside0.mk (below3 hw32_ GE_g3.out HB.out)
 rw [set3_fold,hw32_]
 clear hw32_ BK_g3 BK_g1 O_d2 O_t2 O_c2 O_m1 HB
 have BK_g3:=n33_
 have BK_g1:=n34_
 have O_d2:=n35_
 have O_t2:=n36_
 have O_c2:=n37_
 have O_m1:=n38_
 have HB:=n39_
 clear n33_ n34_ n35_ n36_ n37_ n38_ n39_
 obtain ⟨hx_g1_0,hf_g1_0,hx_g1_1,hf_g1_1,hx_g1_2,hf_g1_2,hx_g1_3,hf_g1_3,hx_g1_4,hf_g1_4,hx_g1_5,hf_g1_5,hx_g1_6,hf_g1_6⟩:=cells7 BK_g1.out
 go_upto_region 4 with (first
  | ((with_reducible refine gate_callee (f:=14) rfl ?_);refine goesL_ (some 27) rfl rfl Try.func14 (by kernel_rfl) rfl #[.agg #[.int .u64 0,.slice A2 d2.length p2,.slice B2 t2.length q2,.slice C2 c2.length r2,.bool false,.bool false,.bool false]] rfl (by (try simp only [List.map_toArray,List.map_cons,List.map_nil]);first | done | rfl) ?_;refine (supply_Finish.calls 0 _ _ d2 _ _ t2 _ _ c2 false false false _ _ _ _ _ _ _ _ (Kd.R_reads' O_d2.out).2.2 (Kd.R_reads' O_d2.out).2.1 (Kd.R_reads' O_t2.out).2.2 (Kd.R_reads' O_t2.out).2.1 (Kd.R_reads' O_c2.out).2.2 (Kd.R_reads' O_c2.out).2.1 P3.out).mono ?_;rintro e_ w9 ⟨u1,u2,u3,rfl,ho1,ho2,ho3,hb⟩;refine ⟨_,rfl,?_⟩;have O_d3:=Aside0.mk ((Kd.R_mono (Kd.R_lower ho1 HB.out.size) (fun _ _ => trivial)));have O_t3:=Aside0.mk ((Kd.R_mono (Kd.R_lower ho2 HB.out.size) (fun _ _ => trivial)));have O_c3:=Aside0.mk ((Kd.R_mono (Kd.R_lower ho3 HB.out.size) (fun _ _ => trivial)));clear ho1 ho2 ho3;clear hx_g1_0 hf_g1_0 hx_g1_1 hf_g1_1 hx_g1_2 hf_g1_2 hx_g1_3 hf_g1_3 hx_g1_4 hf_g1_4 hx_g1_5 hf_g1_5 hx_g1_6 hf_g1_6;have n40_:=Aside0.mk (below_step HB.out hb);have n41_:=Aside0.mk (blk_below BK_g1.out hb);have n42_:=Aside0.mk (blk_below BK_g3.out hb);have n43_:=Aside0.mk (Kd.R_below O_d2.out hb);have n44_:=Aside0.mk (Kd.R_below O_t2.out hb);have n45_:=Aside0.mk (Kd.R_below O_c2.out hb);have n46_:=Aside0.mk (Kd.R_below O_m1.out hb);clear HB BK_g1 BK_g3 O_d2 O_t2 O_c2 O_m1;have HB:=n40_;have BK_g1:=n41_;have BK_g3:=n42_;have O_d2:=n43_;have O_t2:=n44_;have O_c2:=n45_;have O_m1:=n46_;clear n40_ n41_ n42_ n43_ n44_ n45_ n46_;clear hb;obtain ⟨A3,p3,eo⟩:=Kd.R_slice O_d3.out;subst eo;obtain ⟨B3,q3,eo⟩:=Kd.R_slice O_t3.out;subst eo;obtain ⟨C3,r3,eo⟩:=Kd.R_slice O_c3.out;subst eo;clear O_d2 O_t2 O_c2;obtain ⟨hx_g1_0,hf_g1_0,hx_g1_1,hf_g1_1,hx_g1_2,hf_g1_2,hx_g1_3,hf_g1_3,hx_g1_4,hf_g1_4,hx_g1_5,hf_g1_5,hx_g1_6,hf_g1_6⟩:=cells7 BK_g1.out))
 clear hx_g1_0 hf_g1_0 hx_g1_1 hf_g1_1 hx_g1_2 hf_g1_2 hx_g1_3 hf_g1_3 hx_g1_4 hf_g1_4 hx_g1_5 hf_g1_5 hx_g1_6 hf_g1_6
 obtain ⟨w10,hw47_⟩ : ∃ w_ : World,set7 w9 g1 (.int .u64 0) (.slice A3 d3.length p3) (.slice B3 t3.length q3) (.slice C3 c3.length r3) (.bool true) (.bool true) (.bool false) = w_:=⟨_,rfl⟩
 have n48_:=Aside0.mk (blk7 hw47_ BK_g1.out)
 have n49_:=Aside0.mk (far7 hw47_ NB_g3_g1 BK_g3.out)
 have n50_:=Aside0.mk (R7 hw47_ BK_g1.out rfl (by decide) O_m1.out)
 have n51_:=Aside0.mk (R7 hw47_ BK_g1.out rfl (by decide) O_d3.out)
 have n52_:=Aside0.mk (R7 hw47_ BK_g1.out rfl (by decide) O_t3.out)
 have n53_:=Aside0.mk (R7 hw47_ BK_g1.out rfl (by decide) O_c3.out)
 have n54_:=Aside0.mk (below7 hw47_ GE_g1.out HB.out)
 rw [set7_fold,hw47_]
 clear hw47_ BK_g1 BK_g3 O_m1 O_d3 O_t3 O_c3 HB
 have BK_g1:=n48_
 have BK_g3:=n49_
 have O_m1:=n50_
 have O_d3:=n51_
 have O_t3:=n52_
 have O_c3:=n53_
 have HB:=n54_
 clear n48_ n49_ n50_ n51_ n52_ n53_ n54_
 obtain ⟨hx_g1_0,hf_g1_0,hx_g1_1,hf_g1_1,hx_g1_2,hf_g1_2,hx_g1_3,hf_g1_3,hx_g1_4,hf_g1_4,hx_g1_5,hf_g1_5,hx_g1_6,hf_g1_6⟩:=cells7 BK_g1.out
 go_upto_region 5 with (first
  | ((with_reducible refine gate_dst (N:=30) rfl ?_);refine lit_mark 22 5 Try.underlying22 Try.underlying5 ?hg (N:=30) ?hd y2 [.int .u8 120] ?hl ?hr ?hg2 ?hp ?_;(case hd => rfl);(case hg => rfl);(case hg2 => rfl);(case hl => exact ⟨by rw [Y_y2.out];rfl,by rw [Y_y2.out];simp⟩);(case hr => rw [Y_y2.out];first | (go_simp;done) | (go_simp;rfl));(case hp => intro W_;first | (go_simp;done) | (go_simp;rfl));intro Ay2 w11 C_y2 hb;clear hx_g1_0 hf_g1_0 hx_g1_1 hf_g1_1 hx_g1_2 hf_g1_2 hx_g1_3 hf_g1_3 hx_g1_4 hf_g1_4 hx_g1_5 hf_g1_5 hx_g1_6 hf_g1_6;have n55_:=Aside0.mk (below_step HB.out hb);have n56_:=Aside0.mk (blk_below BK_g1.out hb);have n57_:=Aside0.mk (blk_below BK_g3.out hb);have n58_:=Aside0.mk (Kd.R_below O_m1.out hb);have n59_:=Aside0.mk (Kd.R_below O_d3.out hb);have n60_:=Aside0.mk (Kd.R_below O_t3.out hb);have n61_:=Aside0.mk (Kd.R_below O_c3.out hb);clear HB BK_g1 BK_g3 O_m1 O_d3 O_t3 O_c3;have HB:=n55_;have BK_g1:=n56_;have BK_g3:=n57_;have O_m1:=n58_;have O_d3:=n59_;have O_t3:=n60_;have O_c3:=n61_;clear n55_ n56_ n57_ n58_ n59_ n60_ n61_;clear hb;obtain ⟨hx_g1_0,hf_g1_0,hx_g1_1,hf_g1_1,hx_g1_2,hf_g1_2,hx_g1_3,hf_g1_3,hx_g1_4,hf_g1_4,hx_g1_5,hf_g1_5,hx_g1_6,hf_g1_6⟩:=cells7 BK_g1.out)
  | ((with_reducible refine gate_callee (f:=9) rfl ?_);refine goesL_ (some 32) rfl rfl Try.func9 (by kernel_rfl) rfl #[.agg #[.int .u64 0,.slice A3 d3.length p3,.slice B3 t3.length q3,.slice C3 c3.length r3,.bool true,.bool true,.bool false],.slice Ay2 y2.length y2.length] rfl (by (try simp only [List.map_toArray,List.map_cons,List.map_nil]);first | done | rfl) ?_;refine (supply_Write_err.hand 0 _ _ d3 _ _ t3 _ _ c3 true true false Ay2 y2.length y2 _ (Kd.R_reads' O_d3.out).2.2 (Kd.R_reads' O_d3.out).2.1 (Kd.R_reads' O_t3.out).2.2 (Kd.R_reads' O_t3.out).2.1 (Kd.R_reads' O_c3.out).2.2 (Kd.R_reads' O_c3.out).2.1 rfl P4.out).mono ?_;rintro e_ w12 ⟨rfl,hb⟩;refine ⟨_,rfl,?_⟩;clear hx_g1_0 hf_g1_0 hx_g1_1 hf_g1_1 hx_g1_2 hf_g1_2 hx_g1_3 hf_g1_3 hx_g1_4 hf_g1_4 hx_g1_5 hf_g1_5 hx_g1_6 hf_g1_6;have n62_:=Aside0.mk (below_step HB.out hb);have n63_:=Aside0.mk (blk_below BK_g1.out hb);have n64_:=Aside0.mk (blk_below BK_g3.out hb);have n65_:=Aside0.mk (Kd.R_below O_m1.out hb);have n66_:=Aside0.mk (Kd.R_below O_d3.out hb);have n67_:=Aside0.mk (Kd.R_below O_t3.out hb);have n68_:=Aside0.mk (Kd.R_below O_c3.out hb);clear HB BK_g1 BK_g3 O_m1 O_d3 O_t3 O_c3;have HB:=n62_;have BK_g1:=n63_;have BK_g3:=n64_;have O_m1:=n65_;have O_d3:=n66_;have O_t3:=n67_;have O_c3:=n68_;clear n62_ n63_ n64_ n65_ n66_ n67_ n68_;clear hb)
  | ((with_reducible refine gate_dst (N:=5) rfl ?_);refine box_event ?hg (N:=5) ?hd (cs:=#[.int .u64 0,.slice none 0 0,.slice none 0 0,.slice none 0 0,.bool false,.bool false,.bool false]) (t:=27) ?hr ?_;(case hd => rfl);(case hg => rfl);(case hr => first | (go_simp;done) | (go_simp;rfl));intro g5 hg w13 hbox hb;have GE_g5:=Aside0.mk (show w.heap.size ≤ g5 by rw [hg];exact HB.out.size);have NB_g1_g5 : g1 ≠ g5:=(by rw [hg];exact Nat.ne_of_lt (blk_lt BK_g1.out));have NB_g5_g1:=NB_g1_g5.symm;have NB_g3_g5 : g3 ≠ g5:=(by rw [hg];exact Nat.ne_of_lt (blk_lt BK_g3.out));have NB_g5_g3:=NB_g3_g5.symm;have n69_:=Aside0.mk (below_step HB.out hb);have n70_:=Aside0.mk (blk_below BK_g1.out hb);have n71_:=Aside0.mk (blk_below BK_g3.out hb);have n72_:=Aside0.mk (Kd.R_below O_m1.out hb);have n73_:=Aside0.mk (Kd.R_below O_d3.out hb);have n74_:=Aside0.mk (Kd.R_below O_t3.out hb);have n75_:=Aside0.mk (Kd.R_below O_c3.out hb);clear HB BK_g1 BK_g3 O_m1 O_d3 O_t3 O_c3;have HB:=n69_;have BK_g1:=n70_;have BK_g3:=n71_;have O_m1:=n72_;have O_d3:=n73_;have O_t3:=n74_;have O_c3:=n75_;clear n69_ n70_ n71_ n72_ n73_ n74_ n75_;have BK_g5:=Aside0.mk hbox;clear hbox hb hg;obtain ⟨hx_g1_0,hf_g1_0,hx_g1_1,hf_g1_1,hx_g1_2,hf_g1_2,hx_g1_3,hf_g1_3,hx_g1_4,hf_g1_4,hx_g1_5,hf_g1_5,hx_g1_6,hf_g1_6⟩:=cells7 BK_g1.out;obtain ⟨hx_g5_0,hf_g5_0,hx_g5_1,hf_g5_1,hx_g5_2,hf_g5_2,hx_g5_3,hf_g5_3,hx_g5_4,hf_g5_4,hx_g5_5,hf_g5_5,hx_g5_6,hf_g5_6⟩:=cells7 BK_g5.out))
 clear hx_g1_0 hf_g1_0 hx_g1_1 hf_g1_1 hx_g1_2 hf_g1_2 hx_g1_3 hf_g1_3 hx_g1_4 hf_g1_4 hx_g1_5 hf_g1_5 hx_g1_6 hf_g1_6 hx_g5_0 hf_g5_0 hx_g5_1 hf_g5_1 hx_g5_2 hf_g5_2 hx_g5_3 hf_g5_3 hx_g5_4 hf_g5_4 hx_g5_5 hf_g5_5 hx_g5_6 hf_g5_6
 obtain ⟨w14,hw76_⟩ : ∃ w_ : World,set7 w13 g5 (.int .u64 0) (.slice A3 d3.length p3) (.slice B3 t3.length q3) (.slice C3 c3.length r3) (.bool true) (.bool true) (.bool false) = w_:=⟨_,rfl⟩
 have n77_:=Aside0.mk (blk7 hw76_ BK_g5.out)
 have n78_:=Aside0.mk (far7 hw76_ NB_g1_g5 BK_g1.out)
 have n79_:=Aside0.mk (far7 hw76_ NB_g3_g5 BK_g3.out)
 have n80_:=Aside0.mk (R7 hw76_ BK_g5.out rfl (by decide) O_m1.out)
 have n81_:=Aside0.mk (R7 hw76_ BK_g5.out rfl (by decide) O_d3.out)
 have n82_:=Aside0.mk (R7 hw76_ BK_g5.out rfl (by decide) O_t3.out)
 have n83_:=Aside0.mk (R7 hw76_ BK_g5.out rfl (by decide) O_c3.out)
 have n84_:=Aside0.mk (below7 hw76_ GE_g5.out HB.out)
 rw [set7_fold,hw76_]
 clear hw76_ BK_g5 BK_g1 BK_g3 O_m1 O_d3 O_t3 O_c3 HB
 have BK_g5:=n77_
 have BK_g1:=n78_
 have BK_g3:=n79_
 have O_m1:=n80_
 have O_d3:=n81_
 have O_t3:=n82_
 have O_c3:=n83_
 have HB:=n84_
 clear n77_ n78_ n79_ n80_ n81_ n82_ n83_ n84_
 clear BK_g5
 obtain ⟨hx_g1_0,hf_g1_0,hx_g1_1,hf_g1_1,hx_g1_2,hf_g1_2,hx_g1_3,hf_g1_3,hx_g1_4,hf_g1_4,hx_g1_5,hf_g1_5,hx_g1_6,hf_g1_6⟩:=cells7 BK_g1.out
 go_upto_region 6 with (first
  | ((with_reducible refine gate_callee (f:=10) rfl ?_);refine goesL_ (some 37) rfl rfl Try.func10 (by kernel_rfl) rfl #[.agg #[.int .u64 0,.slice A3 d3.length p3,.slice B3 t3.length q3,.slice C3 c3.length r3,.bool true,.bool true,.bool false],.int .i64 3,.int .u64 99] rfl (by (try simp only [List.map_toArray,List.map_cons,List.map_nil]);first | done | rfl) ?_;refine (supply_Next.part_ 0 _ _ d3 _ _ t3 _ _ c3 true true false 3 99 3 4 3 4 true t5 m2 4 6 _ (Kd.R_reads' O_d3.out).2.2 (Kd.R_reads' O_d3.out).2.1 (Kd.R_reads' O_t3.out).2.2 (Kd.R_reads' O_t3.out).2.1 (Kd.R_reads' O_c3.out).2.2 (Kd.R_reads' O_c3.out).2.1 Q5l.out Q5a.out (by decide) Q5b.out Q5c.out (by decide) Q5d.out Q5e.out Q5f.out Q5g.out (by decide) (by decide) (by decide) Q5h.out Q5k.out).mono ?_;rintro e_ w15 ⟨u1,u2,u3,u4,rfl,ho1,ho2,ho3,ho4,hb⟩;refine ⟨_,rfl,?_⟩;have O_d5:=Aside0.mk ((Kd.R_mono (Kd.R_lower ho1 HB.out.size) (fun _ _ => trivial)));have O_t5:=Aside0.mk ((Kd.R_mono (Kd.R_lower ho2 HB.out.size) (fun _ _ => trivial)));have O_c5:=Aside0.mk ((Kd.R_mono (Kd.R_lower ho3 HB.out.size) (fun _ _ => trivial)));rw [E5d.out] at O_d5;rw [E5c.out] at O_c5;have O_m2:=Aside0.mk (Kd.R_mono (Kd.R_lower ho4 HB.out.size) (fun _ _ => trivial));clear ho1 ho2 ho3 ho4;clear hx_g1_0 hf_g1_0 hx_g1_1 hf_g1_1 hx_g1_2 hf_g1_2 hx_g1_3 hf_g1_3 hx_g1_4 hf_g1_4 hx_g1_5 hf_g1_5 hx_g1_6 hf_g1_6;have n85_:=Aside0.mk (below_step HB.out hb);have n86_:=Aside0.mk (blk_below BK_g1.out hb);have n87_:=Aside0.mk (blk_below BK_g3.out hb);have n88_:=Aside0.mk (Kd.R_below O_m1.out hb);have n89_:=Aside0.mk (Kd.R_below O_d3.out hb);have n90_:=Aside0.mk (Kd.R_below O_t3.out hb);have n91_:=Aside0.mk (Kd.R_below O_c3.out hb);clear HB BK_g1 BK_g3 O_m1 O_d3 O_t3 O_c3;have HB:=n85_;have BK_g1:=n86_;have BK_g3:=n87_;have O_m1:=n88_;have O_d3:=n89_;have O_t3:=n90_;have O_c3:=n91_;clear n85_ n86_ n87_ n88_ n89_ n90_ n91_;clear hb;obtain ⟨A5,p5,eo⟩:=Kd.R_slice O_d5.out;subst eo;obtain ⟨B5,q5,eo⟩:=Kd.R_slice O_t5.out;subst eo;obtain ⟨C5,r5,eo⟩:=Kd.R_slice O_c5.out;subst eo;obtain ⟨Mm2,nm2,eo⟩:=Kd.R_slice O_m2.out;subst eo;clear O_d3 O_t3 O_c3)
  | ((with_reducible refine gate_dst (N:=7) rfl ?_);refine box_event ?hg (N:=7) ?hd (cs:=#[.int .u64 0,.slice none 0 0,.bool false]) (t:=32) ?hr ?_;(case hd => rfl);(case hg => rfl);(case hr => first | (go_simp;done) | (go_simp;rfl));intro g7 hg w16 hbox hb;have GE_g7:=Aside0.mk (show w.heap.size ≤ g7 by rw [hg];exact HB.out.size);have NB_g1_g7 : g1 ≠ g7:=(by rw [hg];exact Nat.ne_of_lt (blk_lt BK_g1.out));have NB_g7_g1:=NB_g1_g7.symm;have NB_g3_g7 : g3 ≠ g7:=(by rw [hg];exact Nat.ne_of_lt (blk_lt BK_g3.out));have NB_g7_g3:=NB_g3_g7.symm;have n92_:=Aside0.mk (below_step HB.out hb);have n93_:=Aside0.mk (blk_below BK_g1.out hb);have n94_:=Aside0.mk (blk_below BK_g3.out hb);have n95_:=Aside0.mk (Kd.R_below O_m1.out hb);have n96_:=Aside0.mk (Kd.R_below O_d5.out hb);have n97_:=Aside0.mk (Kd.R_below O_t5.out hb);have n98_:=Aside0.mk (Kd.R_below O_c5.out hb);have n99_:=Aside0.mk (Kd.R_below O_m2.out hb);clear HB BK_g1 BK_g3 O_m1 O_d5 O_t5 O_c5 O_m2;have HB:=n92_;have BK_g1:=n93_;have BK_g3:=n94_;have O_m1:=n95_;have O_d5:=n96_;have O_t5:=n97_;have O_c5:=n98_;have O_m2:=n99_;clear n92_ n93_ n94_ n95_ n96_ n97_ n98_ n99_;have BK_g7:=Aside0.mk hbox;clear hbox hb hg;obtain ⟨hx_g1_0,hf_g1_0,hx_g1_1,hf_g1_1,hx_g1_2,hf_g1_2,hx_g1_3,hf_g1_3,hx_g1_4,hf_g1_4,hx_g1_5,hf_g1_5,hx_g1_6,hf_g1_6⟩:=cells7 BK_g1.out;obtain ⟨hx_g7_0,hf_g7_0,hx_g7_1,hf_g7_1,hx_g7_2,hf_g7_2⟩:=cells3 BK_g7.out))
 clear hx_g1_0 hf_g1_0 hx_g1_1 hf_g1_1 hx_g1_2 hf_g1_2 hx_g1_3 hf_g1_3 hx_g1_4 hf_g1_4 hx_g1_5 hf_g1_5 hx_g1_6 hf_g1_6 hx_g7_0 hf_g7_0 hx_g7_1 hf_g7_1 hx_g7_2 hf_g7_2
 obtain ⟨w17,hw100_⟩ : ∃ w_ : World,set7 w16 g1 (.int .u64 0) (.slice A5 d5.length p5) (.slice B5 t5.length q5) (.slice C5 c5.length r5) (.bool true) (.bool false) (.bool false) = w_:=⟨_,rfl⟩
 have n101_:=Aside0.mk (blk7 hw100_ BK_g1.out)
 have n102_:=Aside0.mk (far7 hw100_ NB_g3_g1 BK_g3.out)
 have n103_:=Aside0.mk (far7 hw100_ NB_g7_g1 BK_g7.out)
 have n104_:=Aside0.mk (R7 hw100_ BK_g1.out rfl (by decide) O_m1.out)
 have n105_:=Aside0.mk (R7 hw100_ BK_g1.out rfl (by decide) O_d5.out)
 have n106_:=Aside0.mk (R7 hw100_ BK_g1.out rfl (by decide) O_t5.out)
 have n107_:=Aside0.mk (R7 hw100_ BK_g1.out rfl (by decide) O_c5.out)
 have n108_:=Aside0.mk (R7 hw100_ BK_g1.out rfl (by decide) O_m2.out)
 have n109_:=Aside0.mk (below7 hw100_ GE_g1.out HB.out)
 rw [set7_fold,hw100_]
 clear hw100_ BK_g1 BK_g3 BK_g7 O_m1 O_d5 O_t5 O_c5 O_m2 HB
 have BK_g1:=n101_
 have BK_g3:=n102_
 have BK_g7:=n103_
 have O_m1:=n104_
 have O_d5:=n105_
 have O_t5:=n106_
 have O_c5:=n107_
 have O_m2:=n108_
 have HB:=n109_
 clear n101_ n102_ n103_ n104_ n105_ n106_ n107_ n108_ n109_
 obtain ⟨w18,hw110_⟩ : ∃ w_ : World,set3 w17 g7 (.int .u64 3) (.slice Mm2 m2.length nm2) (.bool true) = w_:=⟨_,rfl⟩
 have n111_:=Aside0.mk (blk3 hw110_ BK_g7.out)
 have n112_:=Aside0.mk (far3 hw110_ NB_g1_g7 BK_g1.out)
 have n113_:=Aside0.mk (far3 hw110_ NB_g3_g7 BK_g3.out)
 have n114_:=Aside0.mk (R3 hw110_ BK_g7.out rfl (by decide) O_m1.out)
 have n115_:=Aside0.mk (R3 hw110_ BK_g7.out rfl (by decide) O_d5.out)
 have n116_:=Aside0.mk (R3 hw110_ BK_g7.out rfl (by decide) O_t5.out)
 have n117_:=Aside0.mk (R3 hw110_ BK_g7.out rfl (by decide) O_c5.out)
 have n118_:=Aside0.mk (R3 hw110_ BK_g7.out rfl (by decide) O_m2.out)
 have n119_:=Aside0.mk (below3 hw110_ GE_g7.out HB.out)
 rw [set3_fold,hw110_]
 clear hw110_ BK_g7 BK_g1 BK_g3 O_m1 O_d5 O_t5 O_c5 O_m2 HB
 have BK_g7:=n111_
 have BK_g1:=n112_
 have BK_g3:=n113_
 have O_m1:=n114_
 have O_d5:=n115_
 have O_t5:=n116_
 have O_c5:=n117_
 have O_m2:=n118_
 have HB:=n119_
 clear n111_ n112_ n113_ n114_ n115_ n116_ n117_ n118_ n119_
 obtain ⟨hx_g1_0,hf_g1_0,hx_g1_1,hf_g1_1,hx_g1_2,hf_g1_2,hx_g1_3,hf_g1_3,hx_g1_4,hf_g1_4,hx_g1_5,hf_g1_5,hx_g1_6,hf_g1_6⟩:=cells7 BK_g1.out
 obtain ⟨hx_g3_0,hf_g3_0,hx_g3_1,hf_g3_1,hx_g3_2,hf_g3_2⟩:=cells3 BK_g3.out
 go_upto_region 7 with (first
  | ((with_reducible refine gate_callee (f:=12) rfl ?_);refine goesL_ (some 43) rfl rfl Try.func12 (by kernel_rfl) rfl #[.agg #[.int .u64 0,.slice A5 d5.length p5,.slice B5 t5.length q5,.slice C5 c5.length r5,.bool true,.bool false,.bool false],.agg #[.int .u64 0,.slice Mm1 m1.length nm1,.bool false]] rfl (by (try simp only [List.map_toArray,List.map_cons,List.map_nil]);first | done | rfl) ?_;refine (supply_Lost.calls 20 0 _ _ d5 _ _ t5 _ _ c5 true false false 0 _ _ m1 false _ _ _ _ _ _ _ _ (Kd.R_reads' O_d5.out).2.2 (Kd.R_reads' O_d5.out).2.1 (Kd.R_reads' O_t5.out).2.2 (Kd.R_reads' O_t5.out).2.1 (Kd.R_reads' O_c5.out).2.2 (Kd.R_reads' O_c5.out).2.1 (Kd.R_reads' O_m1.out).2.2 (Kd.R_reads' O_m1.out).2.1 P6.out).mono ?_;rintro e_ w19 ⟨u1,u2,u3,rfl,ho1,ho2,ho3,hb⟩;refine ⟨_,rfl,?_⟩;have O_d6:=Aside0.mk ((Kd.R_mono (Kd.R_lower ho1 HB.out.size) (fun _ _ => trivial)));have O_t6:=Aside0.mk ((Kd.R_mono (Kd.R_lower ho2 HB.out.size) (fun _ _ => trivial)));have O_c6:=Aside0.mk ((Kd.R_mono (Kd.R_lower ho3 HB.out.size) (fun _ _ => trivial)));clear ho1 ho2 ho3;clear hx_g1_0 hf_g1_0 hx_g1_1 hf_g1_1 hx_g1_2 hf_g1_2 hx_g1_3 hf_g1_3 hx_g1_4 hf_g1_4 hx_g1_5 hf_g1_5 hx_g1_6 hf_g1_6 hx_g3_0 hf_g3_0 hx_g3_1 hf_g3_1 hx_g3_2 hf_g3_2;have n120_:=Aside0.mk (below_step HB.out hb);have n121_:=Aside0.mk (blk_below BK_g1.out hb);have n122_:=Aside0.mk (blk_below BK_g3.out hb);have n123_:=Aside0.mk (blk_below BK_g7.out hb);have n124_:=Aside0.mk (Kd.R_below O_m1.out hb);have n125_:=Aside0.mk (Kd.R_below O_d5.out hb);have n126_:=Aside0.mk (Kd.R_below O_t5.out hb);have n127_:=Aside0.mk (Kd.R_below O_c5.out hb);have n128_:=Aside0.mk (Kd.R_below O_m2.out hb);clear HB BK_g1 BK_g3 BK_g7 O_m1 O_d5 O_t5 O_c5 O_m2;have HB:=n120_;have BK_g1:=n121_;have BK_g3:=n122_;have BK_g7:=n123_;have O_m1:=n124_;have O_d5:=n125_;have O_t5:=n126_;have O_c5:=n127_;have O_m2:=n128_;clear n120_ n121_ n122_ n123_ n124_ n125_ n126_ n127_ n128_;clear hb;obtain ⟨A6,p6,eo⟩:=Kd.R_slice O_d6.out;subst eo;obtain ⟨B6,q6,eo⟩:=Kd.R_slice O_t6.out;subst eo;obtain ⟨C6,r6,eo⟩:=Kd.R_slice O_c6.out;subst eo)
  | ((with_reducible refine gate_dst (N:=9) rfl ?_);refine box_event ?hg (N:=9) ?hd (cs:=#[.int .u64 0,.slice none 0 0,.slice none 0 0,.slice none 0 0,.bool false,.bool false,.bool false]) (t:=27) ?hr ?_;(case hd => rfl);(case hg => rfl);(case hr => first | (go_simp;done) | (go_simp;rfl));intro g9 hg w20 hbox hb;have GE_g9:=Aside0.mk (show w.heap.size ≤ g9 by rw [hg];exact HB.out.size);have NB_g1_g9 : g1 ≠ g9:=(by rw [hg];exact Nat.ne_of_lt (blk_lt BK_g1.out));have NB_g9_g1:=NB_g1_g9.symm;have NB_g3_g9 : g3 ≠ g9:=(by rw [hg];exact Nat.ne_of_lt (blk_lt BK_g3.out));have NB_g9_g3:=NB_g3_g9.symm;have NB_g7_g9 : g7 ≠ g9:=(by rw [hg];exact Nat.ne_of_lt (blk_lt BK_g7.out));have NB_g9_g7:=NB_g7_g9.symm;have n129_:=Aside0.mk (below_step HB.out hb);have n130_:=Aside0.mk (blk_below BK_g1.out hb);have n131_:=Aside0.mk (blk_below BK_g3.out hb);have n132_:=Aside0.mk (blk_below BK_g7.out hb);have n133_:=Aside0.mk (Kd.R_below O_m1.out hb);have n134_:=Aside0.mk (Kd.R_below O_d5.out hb);have n135_:=Aside0.mk (Kd.R_below O_t5.out hb);have n136_:=Aside0.mk (Kd.R_below O_c5.out hb);have n137_:=Aside0.mk (Kd.R_below O_m2.out hb);have n138_:=Aside0.mk (Kd.R_below O_d6.out hb);have n139_:=Aside0.mk (Kd.R_below O_t6.out hb);have n140_:=Aside0.mk (Kd.R_below O_c6.out hb);clear HB BK_g1 BK_g3 BK_g7 O_m1 O_d5 O_t5 O_c5 O_m2 O_d6 O_t6 O_c6;have HB:=n129_;have BK_g1:=n130_;have BK_g3:=n131_;have BK_g7:=n132_;have O_m1:=n133_;have O_d5:=n134_;have O_t5:=n135_;have O_c5:=n136_;have O_m2:=n137_;have O_d6:=n138_;have O_t6:=n139_;have O_c6:=n140_;clear n129_ n130_ n131_ n132_ n133_ n134_ n135_ n136_ n137_ n138_ n139_ n140_;have BK_g9:=Aside0.mk hbox;clear hbox hb hg;obtain ⟨hx_g9_0,hf_g9_0,hx_g9_1,hf_g9_1,hx_g9_2,hf_g9_2,hx_g9_3,hf_g9_3,hx_g9_4,hf_g9_4,hx_g9_5,hf_g9_5,hx_g9_6,hf_g9_6⟩:=cells7 BK_g9.out))
 clear hx_g9_0 hf_g9_0 hx_g9_1 hf_g9_1 hx_g9_2 hf_g9_2 hx_g9_3 hf_g9_3 hx_g9_4 hf_g9_4 hx_g9_5 hf_g9_5 hx_g9_6 hf_g9_6
 obtain ⟨w21,hw141_⟩ : ∃ w_ : World,set7 w20 g9 (.int .u64 0) (.slice A6 d6.length p6) (.slice B6 t6.length q6) (.slice C6 c6.length r6) (.bool true) (.bool false) (.bool false) = w_:=⟨_,rfl⟩
 have n142_:=Aside0.mk (blk7 hw141_ BK_g9.out)
 have n143_:=Aside0.mk (far7 hw141_ NB_g1_g9 BK_g1.out)
 have n144_:=Aside0.mk (far7 hw141_ NB_g3_g9 BK_g3.out)
 have n145_:=Aside0.mk (far7 hw141_ NB_g7_g9 BK_g7.out)
 have n146_:=Aside0.mk (R7 hw141_ BK_g9.out rfl (by decide) O_m1.out)
 have n147_:=Aside0.mk (R7 hw141_ BK_g9.out rfl (by decide) O_d5.out)
 have n148_:=Aside0.mk (R7 hw141_ BK_g9.out rfl (by decide) O_t5.out)
 have n149_:=Aside0.mk (R7 hw141_ BK_g9.out rfl (by decide) O_c5.out)
 have n150_:=Aside0.mk (R7 hw141_ BK_g9.out rfl (by decide) O_m2.out)
 have n151_:=Aside0.mk (R7 hw141_ BK_g9.out rfl (by decide) O_d6.out)
 have n152_:=Aside0.mk (R7 hw141_ BK_g9.out rfl (by decide) O_t6.out)
 have n153_:=Aside0.mk (R7 hw141_ BK_g9.out rfl (by decide) O_c6.out)
 have n154_:=Aside0.mk (below7 hw141_ GE_g9.out HB.out)
 rw [set7_fold,hw141_]
 clear hw141_ BK_g9 BK_g1 BK_g3 BK_g7 O_m1 O_d5 O_t5 O_c5 O_m2 O_d6 O_t6 O_c6 HB
 have BK_g9:=n142_
 have BK_g1:=n143_
 have BK_g3:=n144_
 have BK_g7:=n145_
 have O_m1:=n146_
 have O_d5:=n147_
 have O_t5:=n148_
 have O_c5:=n149_
 have O_m2:=n150_
 have O_d6:=n151_
 have O_t6:=n152_
 have O_c6:=n153_
 have HB:=n154_
 clear n142_ n143_ n144_ n145_ n146_ n147_ n148_ n149_ n150_ n151_ n152_ n153_ n154_
 obtain ⟨hx_g9_0,hf_g9_0,hx_g9_1,hf_g9_1,hx_g9_2,hf_g9_2,hx_g9_3,hf_g9_3,hx_g9_4,hf_g9_4,hx_g9_5,hf_g9_5,hx_g9_6,hf_g9_6⟩:=cells7 BK_g9.out
 go_upto_region 8 with (first
  | ((with_reducible refine gate_callee (f:=10) rfl ?_);refine goesL_ (some 46) rfl rfl Try.func10 (by kernel_rfl) rfl #[.agg #[.int .u64 0,.slice A6 d6.length p6,.slice B6 t6.length q6,.slice C6 c6.length r6,.bool true,.bool false,.bool false],.int .i64 2,.int .u64 99] rfl (by (try simp only [List.map_toArray,List.map_cons,List.map_nil]);first | done | rfl) ?_;refine (supply_Next.part_ 0 _ _ d6 _ _ t6 _ _ c6 true false false 2 99 0 2 0 2 false t7 m3 3 2 _ (Kd.R_reads' O_d6.out).2.2 (Kd.R_reads' O_d6.out).2.1 (Kd.R_reads' O_t6.out).2.2 (Kd.R_reads' O_t6.out).2.1 (Kd.R_reads' O_c6.out).2.2 (Kd.R_reads' O_c6.out).2.1 Q7l.out Q7a.out (by decide) Q7b.out Q7c.out (by decide) Q7d.out Q7e.out Q7f.out Q7g.out (by decide) (by decide) (by decide) Q7h.out Q7k.out).mono ?_;rintro e_ w22 ⟨u1,u2,u3,u4,rfl,ho1,ho2,ho3,ho4,hb⟩;refine ⟨_,rfl,?_⟩;have O_d7:=Aside0.mk ((Kd.R_mono (Kd.R_lower ho1 HB.out.size) (fun _ _ => trivial)));have O_t7:=Aside0.mk ((Kd.R_mono (Kd.R_lower ho2 HB.out.size) (fun _ _ => trivial)));have O_c7:=Aside0.mk ((Kd.R_mono (Kd.R_lower ho3 HB.out.size) (fun _ _ => trivial)));rw [E7d.out] at O_d7;rw [E7c.out] at O_c7;have O_m3:=Aside0.mk (Kd.R_mono (Kd.R_lower ho4 HB.out.size) (fun _ _ => trivial));clear ho1 ho2 ho3 ho4;clear hx_g9_0 hf_g9_0 hx_g9_1 hf_g9_1 hx_g9_2 hf_g9_2 hx_g9_3 hf_g9_3 hx_g9_4 hf_g9_4 hx_g9_5 hf_g9_5 hx_g9_6 hf_g9_6;have n155_:=Aside0.mk (below_step HB.out hb);have n156_:=Aside0.mk (blk_below BK_g1.out hb);have n157_:=Aside0.mk (blk_below BK_g3.out hb);have n158_:=Aside0.mk (blk_below BK_g7.out hb);have n159_:=Aside0.mk (blk_below BK_g9.out hb);have n160_:=Aside0.mk (Kd.R_below O_m1.out hb);have n161_:=Aside0.mk (Kd.R_below O_d5.out hb);have n162_:=Aside0.mk (Kd.R_below O_t5.out hb);have n163_:=Aside0.mk (Kd.R_below O_c5.out hb);have n164_:=Aside0.mk (Kd.R_below O_m2.out hb);have n165_:=Aside0.mk (Kd.R_below O_d6.out hb);have n166_:=Aside0.mk (Kd.R_below O_t6.out hb);have n167_:=Aside0.mk (Kd.R_below O_c6.out hb);clear HB BK_g1 BK_g3 BK_g7 BK_g9 O_m1 O_d5 O_t5 O_c5 O_m2 O_d6 O_t6 O_c6;have HB:=n155_;have BK_g1:=n156_;have BK_g3:=n157_;have BK_g7:=n158_;have BK_g9:=n159_;have O_m1:=n160_;have O_d5:=n161_;have O_t5:=n162_;have O_c5:=n163_;have O_m2:=n164_;have O_d6:=n165_;have O_t6:=n166_;have O_c6:=n167_;clear n155_ n156_ n157_ n158_ n159_ n160_ n161_ n162_ n163_ n164_ n165_ n166_ n167_;clear hb;obtain ⟨A7,p7,eo⟩:=Kd.R_slice O_d7.out;subst eo;obtain ⟨B7,q7,eo⟩:=Kd.R_slice O_t7.out;subst eo;obtain ⟨C7,r7,eo⟩:=Kd.R_slice O_c7.out;subst eo;obtain ⟨Mm3,nm3,eo⟩:=Kd.R_slice O_m3.out;subst eo;clear O_d6 O_t6 O_c6)
  | ((with_reducible refine gate_dst (N:=10) rfl ?_);refine box_event ?hg (N:=10) ?hd (cs:=#[.int .u64 0,.slice none 0 0,.slice none 0 0,.slice none 0 0,.bool false,.bool false,.bool false]) (t:=27) ?hr ?_;(case hd => rfl);(case hg => rfl);(case hr => first | (go_simp;done) | (go_simp;rfl));intro g10 hg w23 hbox hb;have GE_g10:=Aside0.mk (show w.heap.size ≤ g10 by rw [hg];exact HB.out.size);have NB_g1_g10 : g1 ≠ g10:=(by rw [hg];exact Nat.ne_of_lt (blk_lt BK_g1.out));have NB_g10_g1:=NB_g1_g10.symm;have NB_g3_g10 : g3 ≠ g10:=(by rw [hg];exact Nat.ne_of_lt (blk_lt BK_g3.out));have NB_g10_g3:=NB_g3_g10.symm;have NB_g7_g10 : g7 ≠ g10:=(by rw [hg];exact Nat.ne_of_lt (blk_lt BK_g7.out));have NB_g10_g7:=NB_g7_g10.symm;have NB_g9_g10 : g9 ≠ g10:=(by rw [hg];exact Nat.ne_of_lt (blk_lt BK_g9.out));have NB_g10_g9:=NB_g9_g10.symm;have n168_:=Aside0.mk (below_step HB.out hb);have n169_:=Aside0.mk (blk_below BK_g1.out hb);have n170_:=Aside0.mk (blk_below BK_g3.out hb);have n171_:=Aside0.mk (blk_below BK_g7.out hb);have n172_:=Aside0.mk (blk_below BK_g9.out hb);have n173_:=Aside0.mk (Kd.R_below O_m1.out hb);have n174_:=Aside0.mk (Kd.R_below O_d5.out hb);have n175_:=Aside0.mk (Kd.R_below O_t5.out hb);have n176_:=Aside0.mk (Kd.R_below O_c5.out hb);have n177_:=Aside0.mk (Kd.R_below O_m2.out hb);have n178_:=Aside0.mk (Kd.R_below O_d7.out hb);have n179_:=Aside0.mk (Kd.R_below O_t7.out hb);have n180_:=Aside0.mk (Kd.R_below O_c7.out hb);have n181_:=Aside0.mk (Kd.R_below O_m3.out hb);clear HB BK_g1 BK_g3 BK_g7 BK_g9 O_m1 O_d5 O_t5 O_c5 O_m2 O_d7 O_t7 O_c7 O_m3;have HB:=n168_;have BK_g1:=n169_;have BK_g3:=n170_;have BK_g7:=n171_;have BK_g9:=n172_;have O_m1:=n173_;have O_d5:=n174_;have O_t5:=n175_;have O_c5:=n176_;have O_m2:=n177_;have O_d7:=n178_;have O_t7:=n179_;have O_c7:=n180_;have O_m3:=n181_;clear n168_ n169_ n170_ n171_ n172_ n173_ n174_ n175_ n176_ n177_ n178_ n179_ n180_ n181_;have BK_g10:=Aside0.mk hbox;clear hbox hb hg)
  | ((with_reducible refine gate_dst (N:=11) rfl ?_);refine box_event ?hg (N:=11) ?hd (cs:=#[.int .u64 0,.slice none 0 0,.bool false]) (t:=32) ?hr ?_;(case hd => rfl);(case hg => rfl);(case hr => first | (go_simp;done) | (go_simp;rfl));intro g11 hg w24 hbox hb;have GE_g11:=Aside0.mk (show w.heap.size ≤ g11 by rw [hg];exact HB.out.size);have NB_g1_g11 : g1 ≠ g11:=(by rw [hg];exact Nat.ne_of_lt (blk_lt BK_g1.out));have NB_g11_g1:=NB_g1_g11.symm;have NB_g3_g11 : g3 ≠ g11:=(by rw [hg];exact Nat.ne_of_lt (blk_lt BK_g3.out));have NB_g11_g3:=NB_g3_g11.symm;have NB_g7_g11 : g7 ≠ g11:=(by rw [hg];exact Nat.ne_of_lt (blk_lt BK_g7.out));have NB_g11_g7:=NB_g7_g11.symm;have NB_g9_g11 : g9 ≠ g11:=(by rw [hg];exact Nat.ne_of_lt (blk_lt BK_g9.out));have NB_g11_g9:=NB_g9_g11.symm;have NB_g10_g11 : g10 ≠ g11:=(by rw [hg];exact Nat.ne_of_lt (blk_lt BK_g10.out));have NB_g11_g10:=NB_g10_g11.symm;have n182_:=Aside0.mk (below_step HB.out hb);have n183_:=Aside0.mk (blk_below BK_g1.out hb);have n184_:=Aside0.mk (blk_below BK_g3.out hb);have n185_:=Aside0.mk (blk_below BK_g7.out hb);have n186_:=Aside0.mk (blk_below BK_g9.out hb);have n187_:=Aside0.mk (blk_below BK_g10.out hb);have n188_:=Aside0.mk (Kd.R_below O_m1.out hb);have n189_:=Aside0.mk (Kd.R_below O_d5.out hb);have n190_:=Aside0.mk (Kd.R_below O_t5.out hb);have n191_:=Aside0.mk (Kd.R_below O_c5.out hb);have n192_:=Aside0.mk (Kd.R_below O_m2.out hb);have n193_:=Aside0.mk (Kd.R_below O_d7.out hb);have n194_:=Aside0.mk (Kd.R_below O_t7.out hb);have n195_:=Aside0.mk (Kd.R_below O_c7.out hb);have n196_:=Aside0.mk (Kd.R_below O_m3.out hb);clear HB BK_g1 BK_g3 BK_g7 BK_g9 BK_g10 O_m1 O_d5 O_t5 O_c5 O_m2 O_d7 O_t7 O_c7 O_m3;have HB:=n182_;have BK_g1:=n183_;have BK_g3:=n184_;have BK_g7:=n185_;have BK_g9:=n186_;have BK_g10:=n187_;have O_m1:=n188_;have O_d5:=n189_;have O_t5:=n190_;have O_c5:=n191_;have O_m2:=n192_;have O_d7:=n193_;have O_t7:=n194_;have O_c7:=n195_;have O_m3:=n196_;clear n182_ n183_ n184_ n185_ n186_ n187_ n188_ n189_ n190_ n191_ n192_ n193_ n194_ n195_ n196_;have BK_g11:=Aside0.mk hbox;clear hbox hb hg;obtain ⟨hx_g10_0,hf_g10_0,hx_g10_1,hf_g10_1,hx_g10_2,hf_g10_2,hx_g10_3,hf_g10_3,hx_g10_4,hf_g10_4,hx_g10_5,hf_g10_5,hx_g10_6,hf_g10_6⟩:=cells7 BK_g10.out;obtain ⟨hx_g11_0,hf_g11_0,hx_g11_1,hf_g11_1,hx_g11_2,hf_g11_2⟩:=cells3 BK_g11.out))
 clear hx_g10_0 hf_g10_0 hx_g10_1 hf_g10_1 hx_g10_2 hf_g10_2 hx_g10_3 hf_g10_3 hx_g10_4 hf_g10_4 hx_g10_5 hf_g10_5 hx_g10_6 hf_g10_6 hx_g11_0 hf_g11_0 hx_g11_1 hf_g11_1 hx_g11_2 hf_g11_2
 obtain ⟨w25,hw197_⟩ : ∃ w_ : World,set7 w24 g10 (.int .u64 0) (.slice A7 d7.length p7) (.slice B7 t7.length q7) (.slice C7 c7.length r7) (.bool true) (.bool false) (.bool false) = w_:=⟨_,rfl⟩
 have n198_:=Aside0.mk (blk7 hw197_ BK_g10.out)
 have n199_:=Aside0.mk (far7 hw197_ NB_g1_g10 BK_g1.out)
 have n200_:=Aside0.mk (far7 hw197_ NB_g3_g10 BK_g3.out)
 have n201_:=Aside0.mk (far7 hw197_ NB_g7_g10 BK_g7.out)
 have n202_:=Aside0.mk (far7 hw197_ NB_g9_g10 BK_g9.out)
 have n203_:=Aside0.mk (far7 hw197_ NB_g11_g10 BK_g11.out)
 have n204_:=Aside0.mk (R7 hw197_ BK_g10.out rfl (by decide) O_m1.out)
 have n205_:=Aside0.mk (R7 hw197_ BK_g10.out rfl (by decide) O_d5.out)
 have n206_:=Aside0.mk (R7 hw197_ BK_g10.out rfl (by decide) O_t5.out)
 have n207_:=Aside0.mk (R7 hw197_ BK_g10.out rfl (by decide) O_c5.out)
 have n208_:=Aside0.mk (R7 hw197_ BK_g10.out rfl (by decide) O_m2.out)
 have n209_:=Aside0.mk (R7 hw197_ BK_g10.out rfl (by decide) O_d7.out)
 have n210_:=Aside0.mk (R7 hw197_ BK_g10.out rfl (by decide) O_t7.out)
 have n211_:=Aside0.mk (R7 hw197_ BK_g10.out rfl (by decide) O_c7.out)
 have n212_:=Aside0.mk (R7 hw197_ BK_g10.out rfl (by decide) O_m3.out)
 have n213_:=Aside0.mk (below7 hw197_ GE_g10.out HB.out)
 rw [set7_fold,hw197_]
 clear hw197_ BK_g10 BK_g1 BK_g3 BK_g7 BK_g9 BK_g11 O_m1 O_d5 O_t5 O_c5 O_m2 O_d7 O_t7 O_c7 O_m3 HB
 have BK_g10:=n198_
 have BK_g1:=n199_
 have BK_g3:=n200_
 have BK_g7:=n201_
 have BK_g9:=n202_
 have BK_g11:=n203_
 have O_m1:=n204_
 have O_d5:=n205_
 have O_t5:=n206_
 have O_c5:=n207_
 have O_m2:=n208_
 have O_d7:=n209_
 have O_t7:=n210_
 have O_c7:=n211_
 have O_m3:=n212_
 have HB:=n213_
 clear n198_ n199_ n200_ n201_ n202_ n203_ n204_ n205_ n206_ n207_ n208_ n209_ n210_ n211_ n212_ n213_
 obtain ⟨w26,hw214_⟩ : ∃ w_ : World,set3 w25 g11 (.int .u64 0) (.slice Mm3 m3.length nm3) (.bool false) = w_:=⟨_,rfl⟩
 have n215_:=Aside0.mk (blk3 hw214_ BK_g11.out)
 have n216_:=Aside0.mk (far3 hw214_ NB_g1_g11 BK_g1.out)
 have n217_:=Aside0.mk (far3 hw214_ NB_g3_g11 BK_g3.out)
 have n218_:=Aside0.mk (far3 hw214_ NB_g7_g11 BK_g7.out)
 have n219_:=Aside0.mk (far3 hw214_ NB_g9_g11 BK_g9.out)
 have n220_:=Aside0.mk (far3 hw214_ NB_g10_g11 BK_g10.out)
 have n221_:=Aside0.mk (R3 hw214_ BK_g11.out rfl (by decide) O_m1.out)
 have n222_:=Aside0.mk (R3 hw214_ BK_g11.out rfl (by decide) O_d5.out)
 have n223_:=Aside0.mk (R3 hw214_ BK_g11.out rfl (by decide) O_t5.out)
 have n224_:=Aside0.mk (R3 hw214_ BK_g11.out rfl (by decide) O_c5.out)
 have n225_:=Aside0.mk (R3 hw214_ BK_g11.out rfl (by decide) O_m2.out)
 have n226_:=Aside0.mk (R3 hw214_ BK_g11.out rfl (by decide) O_d7.out)
 have n227_:=Aside0.mk (R3 hw214_ BK_g11.out rfl (by decide) O_t7.out)
 have n228_:=Aside0.mk (R3 hw214_ BK_g11.out rfl (by decide) O_c7.out)
 have n229_:=Aside0.mk (R3 hw214_ BK_g11.out rfl (by decide) O_m3.out)
 have n230_:=Aside0.mk (below3 hw214_ GE_g11.out HB.out)
 rw [set3_fold,hw214_]
 clear hw214_ BK_g11 BK_g1 BK_g3 BK_g7 BK_g9 BK_g10 O_m1 O_d5 O_t5 O_c5 O_m2 O_d7 O_t7 O_c7 O_m3 HB
 have BK_g11:=n215_
 have BK_g1:=n216_
 have BK_g3:=n217_
 have BK_g7:=n218_
 have BK_g9:=n219_
 have BK_g10:=n220_
 have O_m1:=n221_
 have O_d5:=n222_
 have O_t5:=n223_
 have O_c5:=n224_
 have O_m2:=n225_
 have O_d7:=n226_
 have O_t7:=n227_
 have O_c7:=n228_
 have O_m3:=n229_
 have HB:=n230_
 clear n215_ n216_ n217_ n218_ n219_ n220_ n221_ n222_ n223_ n224_ n225_ n226_ n227_ n228_ n229_ n230_
 clear BK_g9 BK_g10
 clear O_d7 O_t7 O_c7
 have n231_:=Aside0.mk (below_drew1 HB.out)
 have n232_:=Aside0.mk (blk_drew BK_g1.out)
 have n233_:=Aside0.mk (blk_drew BK_g3.out)
 have n234_:=Aside0.mk (blk_drew BK_g7.out)
 have n235_:=Aside0.mk (blk_drew BK_g11.out)
 have n236_:=Aside0.mk (Kd.R_drew O_m1.out)
 have n237_:=Aside0.mk (Kd.R_drew O_d5.out)
 have n238_:=Aside0.mk (Kd.R_drew O_t5.out)
 have n239_:=Aside0.mk (Kd.R_drew O_c5.out)
 have n240_:=Aside0.mk (Kd.R_drew O_m2.out)
 have n241_:=Aside0.mk (Kd.R_drew O_m3.out)
 clear HB BK_g1 BK_g3 BK_g7 BK_g11 O_m1 O_d5 O_t5 O_c5 O_m2 O_m3
 have HB:=n231_
 have BK_g1:=n232_
 have BK_g3:=n233_
 have BK_g7:=n234_
 have BK_g11:=n235_
 have O_m1:=n236_
 have O_d5:=n237_
 have O_t5:=n238_
 have O_c5:=n239_
 have O_m2:=n240_
 have O_m3:=n241_
 clear n231_ n232_ n233_ n234_ n235_ n236_ n237_ n238_ n239_ n240_ n241_
 (try simp only [Act.put,List.setIfInBounds_toArray,List.set_cons_zero,List.set_cons_succ])
 refine start_ (n:=6) (S:=fun w' => w'.cell? ⟨g1,0,none⟩ = some (.int .u64 0) ∧ w'.cell? ⟨g1,1,none⟩ = some (.slice A5 d5.length p5) ∧ w'.cell? ⟨g1,2,none⟩ = some (.slice B5 t5.length q5) ∧ w'.cell? ⟨g1,3,none⟩ = some (.slice C5 c5.length r5) ∧ w'.cell? ⟨g1,4,none⟩ = some (.bool true) ∧ w'.cell? ⟨g1,5,none⟩ = some (.bool false) ∧ w'.cell? ⟨g1,6,none⟩ = some (.bool false) ∧ w'.cell? ⟨g7,0,none⟩ = some (.int .u64 3) ∧ w'.cell? ⟨g7,1,none⟩ = some (.slice Mm2 m2.length nm2) ∧ w'.cell? ⟨g7,2,none⟩ = some (.bool true) ∧ w'.cell? ⟨g3,0,none⟩ = some (.int .u64 0) ∧ w'.cell? ⟨g3,1,none⟩ = some (.slice Mm1 m1.length nm1) ∧ w'.cell? ⟨g3,2,none⟩ = some (.bool false)) (ds:=[5]) #[false,false,false,false,false,false] (by kernel_rfl) rfl rfl ⟨(blk_cell BK_g1.out 0).trans rfl,(blk_cell BK_g1.out 1).trans rfl,(blk_cell BK_g1.out 2).trans rfl,(blk_cell BK_g1.out 3).trans rfl,(blk_cell BK_g1.out 4).trans rfl,(blk_cell BK_g1.out 5).trans rfl,(blk_cell BK_g1.out 6).trans rfl,(blk_cell BK_g7.out 0).trans rfl,(blk_cell BK_g7.out 1).trans rfl,(blk_cell BK_g7.out 2).trans rfl,(blk_cell BK_g3.out 0).trans rfl,(blk_cell BK_g3.out 1).trans rfl,(blk_cell BK_g3.out 2).trans rfl⟩ (fun hHeld => ?_)
 generalize w26.drew = w27 at HB BK_g1 BK_g3 BK_g7 BK_g11 O_m1 O_d5 O_t5 O_c5 O_m2 O_m3 hHeld ⊢
 refine take_ (i:=0) (N:=some 50) (v:=?_) (a':=?_) #[true,false,false,false,false,false] rfl rfl (by kernel_rfl) (fun _ _ _ h => h) (Or.inl ⟨by rfl,?_⟩) hHeld ?_ ?_
 rotate_left
 ·rintro w' ⟨s0,s1,s2,s3,s4,s5,s6,s7,s8,s9,s10,s11,s12⟩
  go_simp
  with_reducible rfl
 rotate_left
 ·simp only [Act.put,List.setIfInBounds_toArray,List.set_cons_zero,List.set_cons_succ,i64_w,i32_w]
  rfl
 refine take_ (i:=1) (N:=some 51) (v:=?_) (a':=?_) #[true,true,false,false,false,false] rfl rfl (by kernel_rfl) (fun _ _ _ h => h) (Or.inl ⟨by rfl,?_⟩) hHeld ?_ ?_
 rotate_left
 ·rintro w' ⟨s0,s1,s2,s3,s4,s5,s6,s7,s8,s9,s10,s11,s12⟩
  go_simp
  with_reducible rfl
 rotate_left
 ·simp only [Act.put,List.setIfInBounds_toArray,List.set_cons_zero,List.set_cons_succ,i64_w,i32_w]
  rfl
 refine take_ (i:=3) (N:=some 53) (v:=?_) (a':=?_) #[true,true,false,true,false,false] rfl rfl (by kernel_rfl) (fun _ _ _ h => h) (Or.inl ⟨by rfl,?_⟩) hHeld ?_ ?_
 rotate_left
 ·rintro w' ⟨s0,s1,s2,s3,s4,s5,s6,s7,s8,s9,s10,s11,s12⟩
  go_simp
  with_reducible rfl
 rotate_left
 ·simp only [Act.put,List.setIfInBounds_toArray,List.set_cons_zero,List.set_cons_succ,i64_w,i32_w]
  rfl
 refine one_ (i:=2) (N:=some 52) #[true,true,true,true,false,false] rfl rfl (by kernel_rfl) (by decide) (fun K hK => ?_)
 refine goes_ Try.func11 (by kernel_rfl) rfl #[.agg #[.int .u64 0,.slice A5 d5.length p5,.slice B5 t5.length q5,.slice C5 c5.length r5,.bool true,.bool false,.bool false],.agg #[.int .u64 3,.slice Mm2 m2.length nm2,.bool true]] (by rfl) rfl rfl (by (try simp only [List.map_toArray,List.map_cons,List.map_nil]);first | done | rfl) ?_
 refine (supply_Came.calls 20 0 _ _ d5 _ _ t5 _ _ c5 true false false 3 _ _ m2 true _ _ _ _ _ _ _ _ (Kd.R_reads' O_d5.out).2.2 (Kd.R_reads' O_d5.out).2.1 (Kd.R_reads' O_t5.out).2.2 (Kd.R_reads' O_t5.out).2.1 (Kd.R_reads' O_c5.out).2.2 (Kd.R_reads' O_c5.out).2.1 (Kd.R_reads' O_m2.out).2.2 (Kd.R_reads' O_m2.out).2.1 P8.out).mono ?_
 rintro e_ w28 ⟨u1,u2,u3,rfl,ho1,ho2,ho3,hb⟩
 refine ⟨_,rfl,?_⟩
 have V_d8:=Aside0.mk ho1
 have V_t8:=Aside0.mk ho2
 have V_c8:=Aside0.mk ho3
 clear ho1 ho2 ho3
 have n242_:=Aside0.mk (below_step HB.out hb)
 have n243_:=Aside0.mk (blk_below BK_g1.out hb)
 have n244_:=Aside0.mk (blk_below BK_g3.out hb)
 have n245_:=Aside0.mk (blk_below BK_g7.out hb)
 have n246_:=Aside0.mk (blk_below BK_g11.out hb)
 have n247_:=Aside0.mk (Kd.R_below O_m1.out hb)
 have n248_:=Aside0.mk (Kd.R_below O_d5.out hb)
 have n249_:=Aside0.mk (Kd.R_below O_t5.out hb)
 have n250_:=Aside0.mk (Kd.R_below O_c5.out hb)
 have n251_:=Aside0.mk (Kd.R_below O_m2.out hb)
 have n252_:=Aside0.mk (Kd.R_below O_m3.out hb)
 clear HB BK_g1 BK_g3 BK_g7 BK_g11 O_m1 O_d5 O_t5 O_c5 O_m2 O_m3
 have HB:=n242_
 have BK_g1:=n243_
 have BK_g3:=n244_
 have BK_g7:=n245_
 have BK_g11:=n246_
 have O_m1:=n247_
 have O_d5:=n248_
 have O_t5:=n249_
 have O_c5:=n250_
 have O_m2:=n251_
 have O_m3:=n252_
 clear n242_ n243_ n244_ n245_ n246_ n247_ n248_ n249_ n250_ n251_ n252_
 clear hb
 obtain ⟨A8,p8,eo⟩:=Kd.V_slice V_d8.out
 subst eo
 obtain ⟨B8,q8,eo⟩:=Kd.V_slice V_t8.out
 subst eo
 obtain ⟨C8,r8,eo⟩:=Kd.V_slice V_c8.out
 subst eo
 refine hK.out _ _ ⟨(blk_cell BK_g1.out 0).trans rfl,(blk_cell BK_g1.out 1).trans rfl,(blk_cell BK_g1.out 2).trans rfl,(blk_cell BK_g1.out 3).trans rfl,(blk_cell BK_g1.out 4).trans rfl,(blk_cell BK_g1.out 5).trans rfl,(blk_cell BK_g1.out 6).trans rfl,(blk_cell BK_g7.out 0).trans rfl,(blk_cell BK_g7.out 1).trans rfl,(blk_cell BK_g7.out 2).trans rfl,(blk_cell BK_g3.out 0).trans rfl,(blk_cell BK_g3.out 1).trans rfl,(blk_cell BK_g3.out 2).trans rfl⟩ (fun hHeld => ?_)
 clear hK K
 refine norm_ (a':=?_) ?_ ?_
 rotate_left
 ·show Act.put _ (some 52) _ = _
  simp only [Act.put,List.setIfInBounds_toArray,List.set_cons_zero,List.set_cons_succ,i64_w,i32_w]
  rfl
 refine one_ (i:=4) (N:=some 54) #[true,true,true,true,true,false] rfl rfl (by kernel_rfl) (by decide) (fun K hK => ?_)
 refine goes_ Try.func11 (by kernel_rfl) rfl #[.agg #[.int .u64 0,.slice A8 d8.length p8,.slice B8 t8.length q8,.slice C8 c8.length r8,.bool true,.bool false,.bool true],.agg #[.int .u64 0,.slice Mm1 m1.length nm1,.bool false]] (by rfl) rfl rfl (by (try simp only [List.map_toArray,List.map_cons,List.map_nil]);first | done | rfl) ?_
 refine (supply_Came.calls 20 0 _ _ d8 _ _ t8 _ _ c8 true false true 0 _ _ m1 false _ _ _ _ _ _ _ _ (Kd.V_reads' V_d8.out).2.2 (Kd.V_reads' V_d8.out).2.1 (Kd.V_reads' V_t8.out).2.2 (Kd.V_reads' V_t8.out).2.1 (Kd.V_reads' V_c8.out).2.2 (Kd.V_reads' V_c8.out).2.1 (Kd.R_reads' O_m1.out).2.2 (Kd.R_reads' O_m1.out).2.1 P9.out).mono ?_
 rintro e_ w29 ⟨u1,u2,u3,rfl,ho1,ho2,ho3,hb⟩
 refine ⟨_,rfl,?_⟩
 have V_d9:=Aside0.mk ho1
 have V_t9:=Aside0.mk ho2
 have V_c9:=Aside0.mk ho3
 clear ho1 ho2 ho3
 have HLT:=Aside0.mk (blk_lt BK_g1.out)
 have n253_:=Aside0.mk (below_step HB.out hb)
 have n254_:=Aside0.mk (blk_below BK_g1.out hb)
 have n255_:=Aside0.mk (blk_below BK_g3.out hb)
 have n256_:=Aside0.mk (blk_below BK_g7.out hb)
 have n257_:=Aside0.mk (blk_below BK_g11.out hb)
 have n258_:=Aside0.mk (Kd.R_below O_m1.out hb)
 have n259_:=Aside0.mk (Kd.R_below O_d5.out hb)
 have n260_:=Aside0.mk (Kd.R_below O_t5.out hb)
 have n261_:=Aside0.mk (Kd.R_below O_c5.out hb)
 have n262_:=Aside0.mk (Kd.R_below O_m2.out hb)
 have n263_:=Aside0.mk (Kd.R_below O_m3.out hb)
 clear HB BK_g1 BK_g3 BK_g7 BK_g11 O_m1 O_d5 O_t5 O_c5 O_m2 O_m3
 have HB:=n253_
 have BK_g1:=n254_
 have BK_g3:=n255_
 have BK_g7:=n256_
 have BK_g11:=n257_
 have O_m1:=n258_
 have O_d5:=n259_
 have O_t5:=n260_
 have O_c5:=n261_
 have O_m2:=n262_
 have O_m3:=n263_
 clear n253_ n254_ n255_ n256_ n257_ n258_ n259_ n260_ n261_ n262_ n263_
 clear hb V_d8 V_t8 V_c8
 obtain ⟨A9,p9,eo⟩:=Kd.V_slice V_d9.out
 subst eo
 obtain ⟨B9,q9,eo⟩:=Kd.V_slice V_t9.out
 subst eo
 obtain ⟨C9,r9,eo⟩:=Kd.V_slice V_c9.out
 subst eo
 obtain ⟨hx_g1_0,hf_g1_0,hx_g1_1,hf_g1_1,hx_g1_2,hf_g1_2,hx_g1_3,hf_g1_3,hx_g1_4,hf_g1_4,hx_g1_5,hf_g1_5,hx_g1_6,hf_g1_6⟩:=cells7 BK_g1.out
 refine hK.out _ _ ⟨(blk_cell BK_g1.out 0).trans rfl,(blk_cell BK_g1.out 1).trans rfl,(blk_cell BK_g1.out 2).trans rfl,(blk_cell BK_g1.out 3).trans rfl,(blk_cell BK_g1.out 4).trans rfl,(blk_cell BK_g1.out 5).trans rfl,(blk_cell BK_g1.out 6).trans rfl,(blk_cell BK_g7.out 0).trans rfl,(blk_cell BK_g7.out 1).trans rfl,(blk_cell BK_g7.out 2).trans rfl,(blk_cell BK_g3.out 0).trans rfl,(blk_cell BK_g3.out 1).trans rfl,(blk_cell BK_g3.out 2).trans rfl⟩ (fun hHeld => ?_)
 clear hK K
 refine norm_ (a':=?_) ?_ ?_
 rotate_left
 ·show Act.put _ (some 54) _ = _
  simp only [Act.put,List.setIfInBounds_toArray,List.set_cons_zero,List.set_cons_succ,i64_w,i32_w]
  rfl
 refine last_ (i:=5) (N:=none) #[true,true,true,true,true,true] rfl rfl (by kernel_rfl) (by decide) (fun K hK => ?_)
 refine skip_ (w1:=?_) (by rfl) rfl ?_ ?_
 rotate_left
 ·go_simp
  rfl
 refine hK.out _ _ ?_
 clear hK K
 refine done_ (by kernel_rfl) ?_
 clear O_d5 O_t5 O_c5
 have X_d9 : Aside0 (Kd.V (Kd.int .u8) 5 (((((((w29.setCell ⟨g1,0,none⟩ (.int .u64 4)).setCell ⟨g1,1,none⟩ (.slice A9 d9.length p9)).setCell ⟨g1,2,none⟩ (.slice B9 t9.length q9)).setCell ⟨g1,3,none⟩ (.slice C9 c9.length r9)).setCell ⟨g1,4,none⟩ (.bool true)).setCell ⟨g1,5,none⟩ (.bool false)).setCell ⟨g1,6,none⟩ (.bool true)) w28.heap.size (fun k_ => (w28.heap.size ≤ k_)) (.slice A9 d9.length p9) d9):=⟨Kd.V_far (p:=⟨g1,6,none⟩) (Kd.V_far (p:=⟨g1,5,none⟩) (Kd.V_far (p:=⟨g1,4,none⟩) (Kd.V_far (p:=⟨g1,3,none⟩) (Kd.V_far (p:=⟨g1,2,none⟩) (Kd.V_far (p:=⟨g1,1,none⟩) (Kd.V_far (p:=⟨g1,0,none⟩) (V_d9.out) (fun k_ hk_ => Nat.ne_of_gt (Nat.lt_of_lt_of_le HLT.out hk_)) (.int .u64 4)) (fun k_ hk_ => Nat.ne_of_gt (Nat.lt_of_lt_of_le HLT.out hk_)) (.slice A9 d9.length p9)) (fun k_ hk_ => Nat.ne_of_gt (Nat.lt_of_lt_of_le HLT.out hk_)) (.slice B9 t9.length q9)) (fun k_ hk_ => Nat.ne_of_gt (Nat.lt_of_lt_of_le HLT.out hk_)) (.slice C9 c9.length r9)) (fun k_ hk_ => Nat.ne_of_gt (Nat.lt_of_lt_of_le HLT.out hk_)) (.bool true)) (fun k_ hk_ => Nat.ne_of_gt (Nat.lt_of_lt_of_le HLT.out hk_)) (.bool false)) (fun k_ hk_ => Nat.ne_of_gt (Nat.lt_of_lt_of_le HLT.out hk_)) (.bool true)⟩
 have X_t9 : Aside0 (Kd.V k37 37 (((((((w29.setCell ⟨g1,0,none⟩ (.int .u64 4)).setCell ⟨g1,1,none⟩ (.slice A9 d9.length p9)).setCell ⟨g1,2,none⟩ (.slice B9 t9.length q9)).setCell ⟨g1,3,none⟩ (.slice C9 c9.length r9)).setCell ⟨g1,4,none⟩ (.bool true)).setCell ⟨g1,5,none⟩ (.bool false)).setCell ⟨g1,6,none⟩ (.bool true)) w28.heap.size (fun k_ => (w28.heap.size ≤ k_)) (.slice B9 t9.length q9) t9):=⟨Kd.V_far (p:=⟨g1,6,none⟩) (Kd.V_far (p:=⟨g1,5,none⟩) (Kd.V_far (p:=⟨g1,4,none⟩) (Kd.V_far (p:=⟨g1,3,none⟩) (Kd.V_far (p:=⟨g1,2,none⟩) (Kd.V_far (p:=⟨g1,1,none⟩) (Kd.V_far (p:=⟨g1,0,none⟩) (V_t9.out) (fun k_ hk_ => Nat.ne_of_gt (Nat.lt_of_lt_of_le HLT.out hk_)) (.int .u64 4)) (fun k_ hk_ => Nat.ne_of_gt (Nat.lt_of_lt_of_le HLT.out hk_)) (.slice A9 d9.length p9)) (fun k_ hk_ => Nat.ne_of_gt (Nat.lt_of_lt_of_le HLT.out hk_)) (.slice B9 t9.length q9)) (fun k_ hk_ => Nat.ne_of_gt (Nat.lt_of_lt_of_le HLT.out hk_)) (.slice C9 c9.length r9)) (fun k_ hk_ => Nat.ne_of_gt (Nat.lt_of_lt_of_le HLT.out hk_)) (.bool true)) (fun k_ hk_ => Nat.ne_of_gt (Nat.lt_of_lt_of_le HLT.out hk_)) (.bool false)) (fun k_ hk_ => Nat.ne_of_gt (Nat.lt_of_lt_of_le HLT.out hk_)) (.bool true)⟩
 have X_c9 : Aside0 (Kd.V k37 37 (((((((w29.setCell ⟨g1,0,none⟩ (.int .u64 4)).setCell ⟨g1,1,none⟩ (.slice A9 d9.length p9)).setCell ⟨g1,2,none⟩ (.slice B9 t9.length q9)).setCell ⟨g1,3,none⟩ (.slice C9 c9.length r9)).setCell ⟨g1,4,none⟩ (.bool true)).setCell ⟨g1,5,none⟩ (.bool false)).setCell ⟨g1,6,none⟩ (.bool true)) w28.heap.size (fun k_ => (w28.heap.size ≤ k_)) (.slice C9 c9.length r9) c9):=⟨Kd.V_far (p:=⟨g1,6,none⟩) (Kd.V_far (p:=⟨g1,5,none⟩) (Kd.V_far (p:=⟨g1,4,none⟩) (Kd.V_far (p:=⟨g1,3,none⟩) (Kd.V_far (p:=⟨g1,2,none⟩) (Kd.V_far (p:=⟨g1,1,none⟩) (Kd.V_far (p:=⟨g1,0,none⟩) (V_c9.out) (fun k_ hk_ => Nat.ne_of_gt (Nat.lt_of_lt_of_le HLT.out hk_)) (.int .u64 4)) (fun k_ hk_ => Nat.ne_of_gt (Nat.lt_of_lt_of_le HLT.out hk_)) (.slice A9 d9.length p9)) (fun k_ hk_ => Nat.ne_of_gt (Nat.lt_of_lt_of_le HLT.out hk_)) (.slice B9 t9.length q9)) (fun k_ hk_ => Nat.ne_of_gt (Nat.lt_of_lt_of_le HLT.out hk_)) (.slice C9 c9.length r9)) (fun k_ hk_ => Nat.ne_of_gt (Nat.lt_of_lt_of_le HLT.out hk_)) (.bool true)) (fun k_ hk_ => Nat.ne_of_gt (Nat.lt_of_lt_of_le HLT.out hk_)) (.bool false)) (fun k_ hk_ => Nat.ne_of_gt (Nat.lt_of_lt_of_le HLT.out hk_)) (.bool true)⟩
 clear V_d9 V_t9 V_c9
 clear hx_g1_0 hf_g1_0 hx_g1_1 hf_g1_1 hx_g1_2 hf_g1_2 hx_g1_3 hf_g1_3 hx_g1_4 hf_g1_4 hx_g1_5 hf_g1_5 hx_g1_6 hf_g1_6
 obtain ⟨w30,hw264_⟩ : ∃ w_ : World,set7 w29 g1 (.int .u64 4) (.slice A9 d9.length p9) (.slice B9 t9.length q9) (.slice C9 c9.length r9) (.bool true) (.bool false) (.bool true) = w_:=⟨_,rfl⟩
 have n265_:=Aside0.mk (blk7 hw264_ BK_g1.out)
 have n266_:=Aside0.mk (far7 hw264_ NB_g3_g1 BK_g3.out)
 have n267_:=Aside0.mk (far7 hw264_ NB_g7_g1 BK_g7.out)
 have n268_:=Aside0.mk (far7 hw264_ NB_g11_g1 BK_g11.out)
 have n269_:=Aside0.mk (R7 hw264_ BK_g1.out rfl (by decide) O_m1.out)
 have n270_:=Aside0.mk (R7 hw264_ BK_g1.out rfl (by decide) O_m2.out)
 have n271_:=Aside0.mk (R7 hw264_ BK_g1.out rfl (by decide) O_m3.out)
 have n272_:=Aside0.mk (below7 hw264_ GE_g1.out HB.out)
 rw [set7_fold,hw264_] at X_d9
 rw [set7_fold,hw264_] at X_t9
 rw [set7_fold,hw264_] at X_c9
 rw [set7_fold,hw264_]
 clear hw264_ BK_g1 BK_g3 BK_g7 BK_g11 O_m1 O_m2 O_m3 HB
 have BK_g1:=n265_
 have BK_g3:=n266_
 have BK_g7:=n267_
 have BK_g11:=n268_
 have O_m1:=n269_
 have O_m2:=n270_
 have O_m3:=n271_
 have HB:=n272_
 clear n265_ n266_ n267_ n268_ n269_ n270_ n271_ n272_
 obtain ⟨hx_g1_0,hf_g1_0,hx_g1_1,hf_g1_1,hx_g1_2,hf_g1_2,hx_g1_3,hf_g1_3,hx_g1_4,hf_g1_4,hx_g1_5,hf_g1_5,hx_g1_6,hf_g1_6⟩:=cells7 BK_g1.out
 obtain ⟨hx_g3_0,hf_g3_0,hx_g3_1,hf_g3_1,hx_g3_2,hf_g3_2⟩:=cells3 BK_g3.out
 obtain ⟨hx_g7_0,hf_g7_0,hx_g7_1,hf_g7_1,hx_g7_2,hf_g7_2⟩:=cells3 BK_g7.out
 obtain ⟨hx_g11_0,hf_g11_0,hx_g11_1,hf_g11_1,hx_g11_2,hf_g11_2⟩:=cells3 BK_g11.out
 have hcv1:=own_string (P:=Try.prog) Try.underlying22 Try.underlying5 Try.underlying9 (Kd.own_of_R O_m1.out)
 have hcv2:=own_string (P:=Try.prog) Try.underlying22 Try.underlying5 Try.underlying9 (Kd.own_of_R O_m3.out)
 have s1 : ((strOfNums m1).toList == ([97,98,99] : List UInt8)) = true:=by rw [Y_m1.out];decide +kernel
 have s2 : ((strOfNums m3).toList == ([97,98] : List UInt8)) = true:=by rw [Y_m3.out];decide +kernel
 have HB3:=Aside0.mk (Below.refl w30.heap.size w30)
 go_wp2_with (first | (go_at_call 16;refine (supply_Done.calls 4 _ _ d9 _ _ t9 _ _ c9 true false true _ _ (Kd.C_below (Kd.V_reads' X_d9.out).2.2 HB3.out) (Kd.V_reads' X_d9.out).2.1 (Kd.C_below (Kd.V_reads' X_t9.out).2.2 HB3.out) (Kd.V_reads' X_t9.out).2.1 (Kd.C_below (Kd.V_reads' X_c9.out).2.2 HB3.out) (Kd.V_reads' X_c9.out).2.1 P10.out).mono ?_;rintro e_ w31 ⟨rfl,hb⟩;have HB4:=Aside0.mk (below_step HB3.out hb);have HB2:=Aside0.mk (below_step HB.out hb);have BK2:=Aside0.mk (blk_below BK_g1.out hb);clear hx_g1_0 hf_g1_0 hx_g1_1 hf_g1_1 hx_g1_2 hf_g1_2 hx_g1_3 hf_g1_3 hx_g1_4 hf_g1_4 hx_g1_5 hf_g1_5 hx_g1_6 hf_g1_6 hx_g3_0 hf_g3_0 hx_g3_1 hf_g3_1 hx_g3_2 hf_g3_2 hx_g7_0 hf_g7_0 hx_g7_1 hf_g7_1 hx_g7_2 hf_g7_2 hx_g11_0 hf_g11_0 hx_g11_1 hf_g11_1 hx_g11_2 hf_g11_2;clear HB BK_g1 HB3;have HB:=HB2;have HB3:=HB4;have BK_g1:=BK2;clear HB2 HB4 BK2 hb;obtain ⟨hx_g1_0,hf_g1_0,hx_g1_1,hf_g1_1,hx_g1_2,hf_g1_2,hx_g1_3,hf_g1_3,hx_g1_4,hf_g1_4,hx_g1_5,hf_g1_5,hx_g1_6,hf_g1_6⟩:=cells7 BK_g1.out) | (go_at_call 15;refine (supply_End.calls 4 _ _ d9 _ _ t9 _ _ c9 true false true _ _ (Kd.C_below (Kd.V_reads' X_d9.out).2.2 HB3.out) (Kd.V_reads' X_d9.out).2.1 (Kd.C_below (Kd.V_reads' X_t9.out).2.2 HB3.out) (Kd.V_reads' X_t9.out).2.1 (Kd.C_below (Kd.V_reads' X_c9.out).2.2 HB3.out) (Kd.V_reads' X_c9.out).2.1 P11.out).mono ?_;rintro e_ w32 ⟨rfl,hb⟩;have HB2:=Aside0.mk (below_step HB.out hb);clear HB;have HB:=HB2;clear HB2 hb))
 go_ret
 exact ⟨rfl,HB.out⟩

end Go.Proofs.Ytadhkamocbhbmaa.P
