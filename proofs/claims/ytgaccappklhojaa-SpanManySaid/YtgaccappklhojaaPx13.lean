-- Printed for this claim by xprint.py of this session: contracts of this session's own stand in for what the print does not take
import Derived.Test.YtgaccappklhojaaPx0
import Derived.Test.YtgaccappklhojaaPx2
import Derived.Test.YtgaccappklhojaaPx4
import Derived.Test.YtgaccappklhojaaPx5
import Derived.Test.YtgaccappklhojaaPx8
import Derived.Test.YtgaccappklhojaaPx9
namespace Go.Proofs.Ytgaccappklhojaa.P
open Go.RowKit Go.Proofs.YtgaccappklhojaaW.PrintWords Go.Proofs.YtgaccappklhojaaW.PrintLast Go.Proofs.YtgaccappklhojaaW.PrintMore
attribute [local go_sem] max2_int min2_int max_two min_two max_three min_three max_four min_four   -- for this text's walks alone
set_option linter.unusedVariables false
set_option linter.unusedSimpArgs false

/-! ### wigwaglaw07_SpanMany: function 8 -/
section
theorem arr_cell {W : World} {g t : Nat} {bs : List Bool} (h : W.heap[g]? = some (.cells (bs.map Value.bool).toArray t (0,0))) {i : Nat} (hi : i < bs.length) : W.cell? ⟨g,i,none⟩ = some (.bool (bs.getD i false)):=by
 rw [blk_cell h i]
 simp [List.getElem?_eq_getElem hi]
theorem arr_put {W : World} {g t : Nat} {bs : List Bool} (h : W.heap[g]? = some (.cells (bs.map Value.bool).toArray t (0,0))) (i : Nat) (b : Bool) : (W.setCell ⟨g,i,none⟩ (.bool b)).heap[g]? = some (.cells ((bs.set i b).map Value.bool).toArray t (0,0)) :=
 blk_put h i (.bool b) (by simp [List.map_set])
theorem ne_of {α : Type} {d : Kd α} {e t : Nat} (hE : d.E = []) (h : e ≠ t) : ∀ q,q ∈ e :: d.E → q ≠ t:=by
 intro q hq
 rw [hE] at hq
 rw [List.mem_singleton.1 hq]
 exact h
end
theorem idx_run (g : Nat) (x : Int) (h0 : 0 ≤ x) (h1 : x ≤ 255) : ∀ W_ : World,(Instr.indexAt 40 (.pointer (some ⟨g,0,none⟩)) (.int .u8 x)).run Try.prog W_ = .ok (.pointer (some ⟨g,x.toNat,none⟩)) W_:=by
 intro W_
 have hu : Try.prog.underlying 40 = some (.array 256 4):=by kernel_rfl
 have hn : Try.prog.arrayLen 40 = 256:=by simp [Program.arrayLen,hu]
 have he : Try.prog.elem 40 = 4:=by simp [Program.elem,hu]
 obtain ⟨i0,hi,hz⟩:=Option.map_eq_some_iff.1 (show (Try.prog.info? 4).map (·.size) = some 1 by kernel_rfl)
 rw [run_indexAt_array W_ 40 ⟨g,0,none⟩ .u8 x (by rw [hn,he];exact hu),hn,he,if_pos (by omega)]
 have hz' : i0.size = 1:=hz
 simp [sizeOf,typeInfo,hi,hz',Result.andThen,Addr.add]
 intro hx_
 omega
/-- Numbers are put in,one by one;which were seen,and how many unlike ones. -/
def wigwaglaw07_SpanMany.go (k : Nat) : List Int → List S25 → List Bool → Int → Option (List S25 × List Bool × Int)
 | [],s,seen,c => some (s,seen,c)
 | x :: t,s,seen,c => (span_Add.f k s x (x + 1)).bind fun s2 => if seen.getD x.toNat false = true then wigwaglaw07_SpanMany.go k t s2 seen c else wigwaglaw07_SpanMany.go k t s2 (seen.set x.toNat true) (c + 1)
def wigwaglaw07_SpanMany.f (k : Nat) (l0 : List Int) (a1 : Int) : Option Bool :=
 (wigwaglaw07_awake.f k).bind fun b0 => if b0 = true ∧ (∀ i,i < l0.length → 0 ≤ rdOf 0 l0 (i : Int) ∧ rdOf 0 l0 (i : Int) ≤ 255) ∧ 0 ≤ a1 ∧ a1 ≤ 255 then
  (wigwaglaw07_SpanMany.go k (l0.take 60) [] (List.replicate 256 false) 0).bind fun r => (span_Check.f k r.1).bind fun b1 => (span_Size.f k r.1).bind fun b2 => (span_Has.f k r.1 a1).bind fun b3 => if b1 = true ∧ b2 = r.2.2 ∧ b3 = r.2.1.getD a1.toNat false then some true else none
 else none
set_option maxHeartbeats 8000000 in
set_option maxRecDepth 100000 in
theorem wigwaglaw07_SpanMany.calls (k : Nat) (A0 : Option Addr) (c0 : Nat) (l0 : List Int) (a1 : Int) (r : Bool) (w : World) (hr0 : Kd.C (Kd.int .u8) w A0 l0.length l0) (hc0 : l0.length ≤ c0) (h : wigwaglaw07_SpanMany.f k l0 a1 = some r) :
  Calls Try.prog 8 #[.slice A0 l0.length c0,.int .u8 a1] w fun e w' => e = .returned (.bool r) ∧ Below w.heap.size w w':=by
 have HR0:=Aside0.mk hr0
 have HB:=Aside0.mk (Below.refl w.heap.size w)
 clear hr0 hc0
 unfold wigwaglaw07_SpanMany.f at h
 obtain ⟨b0,P0,h⟩:=Option.bind_eq_some_iff.mp h
 replace P0:=Aside0.mk P0
 by_cases c1 : b0 = true ∧ (∀ i,i < l0.length → 0 ≤ rdOf 0 l0 (i : Int) ∧ rdOf 0 l0 (i : Int) ≤ 255) ∧ 0 ≤ a1 ∧ a1 ≤ 255
 case neg => rw [if_neg c1] at h;cases h
 rw [if_pos c1] at h
 obtain ⟨rfl,hbd,ha0,ha1⟩:=c1
 obtain ⟨⟨s9,seen9,c9⟩,P1,h⟩:=Option.bind_eq_some_iff.mp h
 obtain ⟨b1,P2,h⟩:=Option.bind_eq_some_iff.mp h
 obtain ⟨b2,P3,h⟩:=Option.bind_eq_some_iff.mp h
 obtain ⟨b3,P4,h⟩:=Option.bind_eq_some_iff.mp h
 by_cases c2 : b1 = true ∧ b2 = c9 ∧ b3 = seen9.getD a1.toNat false
 case neg => rw [if_neg c2] at h;cases h
 rw [if_pos c2] at h
 obtain rfl:=Option.some.inj h
 obtain ⟨rfl,rfl,hb3⟩:=c2
 have HBD:=Aside0.mk hbd
 have HA:=Aside0.mk (And.intro ha0 ha1)
 replace P1:=Aside0.mk P1
 replace P2:=Aside0.mk P2
 replace P3:=Aside0.mk P3
 replace P4:=Aside0.mk P4
 have HB3:=Aside0.mk hb3
 clear hbd ha0 ha1 hb3 h
 go_enter Try.func8,Try.ntmps8
 go_upto_region 3 with (go_at_call 10;refine (wigwaglaw07_awake.calls k true _ P0.out).mono ?_;rintro e_ w1 ⟨rfl,hb⟩;have HB2:=Aside0.mk (below_step HB.out hb);clear HB hb;have HB:=HB2;clear HB2)
 go_upto_block 0 with (first | ((with_reducible refine gate_dst (N:=7) rfl ?_);refine box_event ?hg (N:=7) ?hd (cs:=(List.map Value.bool (List.replicate 256 false)).toArray) (t:=40) ?hr ?_;(case hd => rfl);(case hg => rfl);(case hr => first | (go_simp;done) | (go_simp;rfl));intro g7 hg w2 hbox hb;have GE:=Aside0.mk (show w.heap.size ≤ g7 by rw [hg];exact HB.out.size);have n1_:=Aside0.mk (below_step HB.out hb);clear HB;have HB:=n1_;clear n1_;have BK:=Aside0.mk hbox;clear hbox hb hg))
 go_wp2_with fail
 go_loopg [6,8,9] (l0.take 60).length (fun kq v6 v8 v9 w' => ∃ (i : Int) (s_ : List S25) (seen : List Bool) (c : Int),v8 = .int .u64 c ∧ v9 = .int .i64 i ∧ Aside0 (0 ≤ i ∧ i + kq = (l0.take 60).length ∧ seen.length = 256 ∧ 0 ≤ c ∧ c ≤ i) ∧ Aside0 (wigwaglaw07_SpanMany.go k ((l0.take 60).drop i.toNat) s_ seen c = some (s9,seen9,b2)) ∧ Aside0 (Kd.R k25 25 w' w.heap.size (fun _ => True) v6 s_) ∧ Aside0 (w'.heap[g7]? = some (.cells (List.map Value.bool seen).toArray 40 (0,0))) ∧ Aside0 (Below w.heap.size w w'))
 case atStart => exact ⟨0,[],List.replicate 256 false,0,rfl,rfl,⟨by simp⟩,⟨by simpa using P1.out⟩,⟨Kd.R_nil _ _ _ _ _⟩,BK,HB⟩
 case round =>
 clear BK HB
 obtain ⟨i,s_,seen,c,rfl,rfl,HI,HQ,O_s,BK,HB⟩:=hrel
 have h60 : (l0.take 60).length = min 60 l0.length:=List.length_take
 by_cases ci : i < ((l0.take 60).length : Int)
 case pos =>
  have q1 : i < (l0.length : Int):=by omega
  have q2 : i < 60:=by omega
  have cb1 : decide (i < (l0.length : Int)) = true:=decide_eq_true q1
  have cb2 : decide (i < 60) = true:=decide_eq_true q2
  cases gk with
  | zero => exact absurd HI.out.2.1 (by omega)
  | succ k1 =>
   have p0 : 0 ≤ i:=HI.out.1
   obtain ⟨ad,e_,hxa0⟩:=ReadsOf.at_ (Kd.reads_of_C (d:=0) HR0.out) i p0 (by omega)
   subst e_
   have hbx : 0 ≤ rdOf 0 l0 i ∧ rdOf 0 l0 i ≤ 255:=by have h_:=HBD.out i.toNat (by omega);rwa [show ((i.toNat : Nat) : Int) = i by omega] at h_
   have hgo:=HQ.out
   have hd_ : (l0.take 60).drop i.toNat = rdOf 0 l0 i :: (l0.take 60).drop (i + 1).toNat:=by
    rw [List.drop_eq_getElem_cons (show i.toNat < (l0.take 60).length by omega),show (i + 1).toNat = i.toNat + 1 by omega]
    congr 1
    unfold rdOf
    rw [List.getElem_take,List.getD_eq_getElem?_getD,List.getElem?_eq_getElem (show i.toNat < l0.length by omega)]
    rfl
   rw [hd_,wigwaglaw07_SpanMany.go] at hgo
   obtain ⟨s2,Q1,hgo⟩:=Option.bind_eq_some_iff.mp hgo
   replace Q1:=Aside0.mk Q1
   generalize rdOf 0 l0 i = x at hxa0 hbx hgo Q1
   have HXA:=Aside0.mk hxa0
   have HX:=Aside0.mk hbx
   have hw1 : IntKind.u64.wrap x = x:=by rw [IntKind.wrap_u64];omega
   have hw2 : IntKind.u64.wrap (x + 1) = x + 1:=by rw [IntKind.wrap_u64];omega
   have qi1 : (0 ≤ i) = True:=eq_true p0
   have qi2 : (i < (l0.length : Int)) = True:=eq_true q1
   obtain ⟨As,cs,eo⟩:=Kd.R_slice O_s.out
   subst eo
   clear hxa0 hbx hd_ HQ ci q1 q2
   go_upto_region 8 with fail
   have n2_:=Aside0.mk (below_drew1 HB.out)
   have n3_:=Aside0.mk (blk_drew BK.out)
   have n4_:=Aside0.mk (Kd.R_drew O_s.out)
   clear HB BK O_s
   have HB:=n2_
   have BK:=n3_
   have O_s:=n4_
   clear n2_ n3_ n4_
   (try simp only [Act.put,List.setIfInBounds_toArray,List.set_cons_zero,List.set_cons_succ])
   refine start_ (n:=15) (S:=fun w' => w'.cell? (ad.add i.toNat) = some (.int .u8 x)) (ds:=[]) #[false,false,false,false,false,false,false,false,false,false,false,false,false,false,false] (by kernel_rfl) rfl rfl ((HB.out.cell (World.block_lt_of_cell? w _ HXA.out)).trans HXA.out) (fun hHeld => ?_)
   generalize wr.drew = w5 at HB BK O_s hHeld ⊢
   refine pure_ (i:=0) (N:=some 21) (v:=?_) (a':=?_) #[true,false,false,false,false,false,false,false,false,false,false,false,false,false,false] rfl rfl (by kernel_rfl) (fun _ _ _ h => h) (Or.inl ⟨by rfl,?_⟩) ?_ ?_
   rotate_left
   ·intro w'
    go_simp
    with_reducible rfl
   rotate_left
   ·simp only [Act.put,List.setIfInBounds_toArray,List.set_cons_zero,List.set_cons_succ,i64_w,i32_w]
    rfl
   refine pure_ (i:=1) (N:=some 22) (v:=?_) (a':=?_) #[true,true,false,false,false,false,false,false,false,false,false,false,false,false,false] rfl rfl (by kernel_rfl) (fun _ _ _ h => h) (Or.inl ⟨by rfl,?_⟩) ?_ ?_
   rotate_left
   ·intro w'
    go_simp
    with_reducible rfl
   rotate_left
   ·simp only [Act.put,List.setIfInBounds_toArray,List.set_cons_zero,List.set_cons_succ,i64_w,i32_w]
    rfl
   refine pure_ (i:=2) (N:=some 23) (v:=?_) (a':=?_) #[true,true,true,false,false,false,false,false,false,false,false,false,false,false,false] rfl rfl (by kernel_rfl) (fun _ _ _ h => h) (Or.inl ⟨by rfl,?_⟩) ?_ ?_
   rotate_left
   ·intro w'
    go_simp
    with_reducible rfl
   rotate_left
   ·simp only [Act.put,List.setIfInBounds_toArray,List.set_cons_zero,List.set_cons_succ,i64_w,i32_w]
    rfl
   refine pure_ (i:=3) (N:=some 24) (v:=?_) (a':=?_) #[true,true,true,true,false,false,false,false,false,false,false,false,false,false,false] rfl rfl (by kernel_rfl) (fun _ _ _ h => h) (Or.inl ⟨by rfl,?_⟩) ?_ ?_
   rotate_left
   ·intro w'
    go_simp
    with_reducible rfl
   rotate_left
   ·simp only [Act.put,List.setIfInBounds_toArray,List.set_cons_zero,List.set_cons_succ,i64_w,i32_w]
    rfl
   refine pure_ (i:=6) (N:=some 27) (v:=?_) (a':=?_) #[true,true,true,true,false,false,true,false,false,false,false,false,false,false,false] rfl rfl (by kernel_rfl) (fun _ _ _ h => h) (Or.inl ⟨by rfl,?_⟩) ?_ ?_
   rotate_left
   ·intro w'
    go_simp
    with_reducible rfl
   rotate_left
   ·simp only [Act.put,List.setIfInBounds_toArray,List.set_cons_zero,List.set_cons_succ,i64_w,i32_w]
    rfl
   refine pure_ (i:=7) (N:=some 28) (v:=?_) (a':=?_) #[true,true,true,true,false,false,true,true,false,false,false,false,false,false,false] rfl rfl (by kernel_rfl) (fun _ _ _ h => h) (Or.inl ⟨by rfl,?_⟩) ?_ ?_
   rotate_left
   ·intro w'
    go_simp
    with_reducible rfl
   rotate_left
   ·simp only [Act.put,List.setIfInBounds_toArray,List.set_cons_zero,List.set_cons_succ,i64_w,i32_w]
    rfl
   refine pure_ (i:=8) (N:=some 29) (v:=?_) (a':=?_) #[true,true,true,true,false,false,true,true,true,false,false,false,false,false,false] rfl rfl (by kernel_rfl) (fun _ _ _ h => h) (Or.inl ⟨by rfl,?_⟩) ?_ ?_
   rotate_left
   ·intro w'
    go_simp
    with_reducible rfl
   rotate_left
   ·simp only [Act.put,List.setIfInBounds_toArray,List.set_cons_zero,List.set_cons_succ,i64_w,i32_w]
    rfl
   refine take_ (i:=4) (N:=some 25) (v:=?_) (a':=?_) #[true,true,true,true,true,false,true,true,true,false,false,false,false,false,false] rfl rfl (by kernel_rfl) (fun _ _ _ h => h) (Or.inl ⟨by rfl,?_⟩) hHeld ?_ ?_
   rotate_left
   ·intro w' s0
    go_simp
    with_reducible rfl
   rotate_left
   ·simp only [Act.put,List.setIfInBounds_toArray,List.set_cons_zero,List.set_cons_succ,i64_w,i32_w]
    rfl
   refine pure_ (i:=5) (N:=some 26) (v:=?_) (a':=?_) #[true,true,true,true,true,true,true,true,true,false,false,false,false,false,false] rfl rfl (by kernel_rfl) (fun _ _ _ h => h) (Or.inl ⟨by rfl,?_⟩) ?_ ?_
   rotate_left
   ·intro w'
    go_simp
    with_reducible rfl
   rotate_left
   ·simp only [Act.put,List.setIfInBounds_toArray,List.set_cons_zero,List.set_cons_succ,i64_w,i32_w]
    rfl
   refine take_ (i:=9) (N:=some 30) (v:=?_) (a':=?_) #[true,true,true,true,true,true,true,true,true,true,false,false,false,false,false] rfl rfl (by kernel_rfl) (fun _ _ _ h => h) (Or.inl ⟨by rfl,?_⟩) hHeld ?_ ?_
   rotate_left
   ·intro w' s0
    go_simp
    with_reducible rfl
   rotate_left
   ·simp only [Act.put,List.setIfInBounds_toArray,List.set_cons_zero,List.set_cons_succ,i64_w,i32_w]
    rfl
   refine pure_ (i:=10) (N:=some 31) (v:=?_) (a':=?_) #[true,true,true,true,true,true,true,true,true,true,true,false,false,false,false] rfl rfl (by kernel_rfl) (fun _ _ _ h => h) (Or.inl ⟨by rfl,?_⟩) ?_ ?_
   rotate_left
   ·intro w'
    go_simp
    with_reducible rfl
   rotate_left
   ·simp only [Act.put,List.setIfInBounds_toArray,List.set_cons_zero,List.set_cons_succ,i64_w,i32_w]
    rfl
   refine pure_ (i:=11) (N:=some 32) (v:=?_) (a':=?_) #[true,true,true,true,true,true,true,true,true,true,true,true,false,false,false] rfl rfl (by kernel_rfl) (fun _ _ _ h => h) (Or.inl ⟨by rfl,?_⟩) ?_ ?_
   rotate_left
   ·intro w'
    go_simp
    with_reducible rfl
   rotate_left
   ·simp only [Act.put,List.setIfInBounds_toArray,List.set_cons_zero,List.set_cons_succ,i64_w,i32_w]
    rfl
   refine pure_ (i:=12) (N:=some 33) (v:=?_) (a':=?_) #[true,true,true,true,true,true,true,true,true,true,true,true,true,false,false] rfl rfl (by kernel_rfl) (fun _ _ _ h => h) (Or.inl ⟨by rfl,?_⟩) ?_ ?_
   rotate_left
   ·intro w'
    go_simp
    with_reducible rfl
   rotate_left
   ·simp only [Act.put,List.setIfInBounds_toArray,List.set_cons_zero,List.set_cons_succ,i64_w,i32_w]
    rfl
   refine one_ (i:=13) (N:=some 34) #[true,true,true,true,true,true,true,true,true,true,true,true,true,true,false] rfl rfl (by kernel_rfl) (by decide) (fun K hK => ?_)
   refine goes_ Try.func17 (by kernel_rfl) rfl #[.slice As s_.length cs,.agg #[.int .u64 x,.int .u64 (x + 1)]] (by rfl) rfl rfl (by (try simp only [List.map_toArray,List.map_cons,List.map_nil]);first | done | rfl) ?_
   refine (span_Add.calls k As cs s_ x (x + 1) s2 _ (Kd.R_reads' O_s.out).2.2 (Kd.R_reads' O_s.out).2.1 Q1.out).mono ?_
   rintro e_ w6 ⟨u_,rfl,ho,hb⟩
   refine ⟨_,rfl,?_⟩
   have O_n:=Aside0.mk (Kd.R_lower ho HB.out.size)
   clear ho O_s
   have n5_:=Aside0.mk (below_step HB.out hb)
   have n6_:=Aside0.mk (blk_below BK.out hb)
   clear HB BK
   have HB:=n5_
   have BK:=n6_
   clear n5_ n6_
   clear hb
   refine hK.out _ _ ((HB.out.cell (World.block_lt_of_cell? w _ HXA.out)).trans HXA.out) (fun hHeld => ?_)
   clear hK K
   refine norm_ (a':=?_) ?_ ?_
   rotate_left
   ·show Act.put _ (some 34) _ = _
    simp only [Act.put,List.setIfInBounds_toArray,List.set_cons_zero,List.set_cons_succ,i64_w,i32_w]
    rfl
   refine pure_ (i:=14) (N:=some 6) (v:=?_) (a':=?_) #[true,true,true,true,true,true,true,true,true,true,true,true,true,true,true] rfl rfl (by kernel_rfl) (fun _ _ _ h => h) (Or.inl ⟨by rfl,?_⟩) ?_ ?_
   rotate_left
   ·intro w'
    go_simp
    with_reducible rfl
   rotate_left
   ·simp only [Act.put,List.setIfInBounds_toArray,List.set_cons_zero,List.set_cons_succ,i64_w,i32_w]
    rfl
   refine done_ (by kernel_rfl) ?_
   have hxn_ : w6.cell? (ad.add i.toNat) = some (.int .u8 x):=(HB.out.cell (World.block_lt_of_cell? w _ HXA.out)).trans HXA.out
   have hxs_ : w6.cell? ⟨g7,x.toNat,none⟩ = some (.bool (seen.getD x.toNat false)):=arr_cell BK.out (by have h_:=HX.out;have h2_:=HI.out;omega)
   have hfs_ : w6.frozen? ⟨g7,x.toNat,none⟩ = false:=blk_frozen BK.out _
   have hidx : ∀ W_ : World,(Instr.indexAt 40 (.pointer (some ⟨g7,0,none⟩)) (.int .u8 x)).run Try.prog W_ = .ok (.pointer (some ⟨g7,x.toNat,none⟩)) W_:=idx_run g7 x HX.out.1 HX.out.2
   have hw : wrap64 (i + 1) = i + 1:=by have h2:=HI.out;have h1:=h60;unfold wrap64;omega
   have hwc : IntKind.u64.wrap (c + 1) = c + 1:=by rw [IntKind.wrap_u64];have h2:=HI.out;omega
   by_cases cs_ : seen.getD x.toNat false = true
   case pos =>
    rw [if_pos cs_] at hgo
    rw [cs_] at hxs_
    have HG:=Aside0.mk hgo
    clear hgo cs_
    go_upto_region 9 with fail
    go_wp2
    go_roundg k1
    case measure => omega
    case rel => exact ⟨wrap64 (i + 1),s2,seen,c,rfl,rfl,⟨by have h2:=HI.out;rw [hw];omega⟩,⟨by rw [hw];exact HG.out⟩,O_n,BK,HB⟩
   case neg =>
    rw [if_neg cs_] at hgo
    rw [Bool.eq_false_iff.mpr cs_] at hxs_
    have HG:=Aside0.mk hgo
    clear hgo cs_
    go_upto_region 9 with fail
    go_upto_region 11 with fail
    have n1_:=Aside0.mk (arr_put BK.out x.toNat true)
    have n2_:=Aside0.mk (Kd.R_mono (Kd.R_far (p:=⟨g7,x.toNat,none⟩) (Kd.R_types O_n.out BK.out (ne_of rfl (by decide))) (fun _ hk => hk.2) (.bool true)) (ok':=fun _ => True) (fun _ _ => trivial))
    have n3_:=Aside0.mk (below_set HB.out GE.out (j:=x.toNat) (v:=.bool true))
    clear BK O_n HB hxn_ hxs_ hfs_
    have BK:=n1_
    have O_n:=n2_
    have HB:=n3_
    clear n1_ n2_ n3_
    generalize w6.setCell ⟨g7,x.toNat,none⟩ (.bool true) = w7 at BK O_n HB ⊢
    go_wp2
    go_roundg k1
    case measure => omega
    case rel => exact ⟨wrap64 (i + 1),s2,seen.set x.toNat true,c + 1,(by first | rfl | (simp only [hwc])),rfl,⟨by have h2:=HI.out;rw [hw,List.length_set];omega⟩,⟨by rw [hw];exact HG.out⟩,O_n,BK,HB⟩
 case neg =>
  have hq:=HQ.out
  rw [List.drop_eq_nil_of_le (by have h2:=HI.out;omega),wigwaglaw07_SpanMany.go] at hq
  simp only [Option.some.injEq,Prod.mk.injEq] at hq
  obtain ⟨rfl,rfl,rfl⟩:=hq
  obtain ⟨As,cs,eo⟩:=Kd.R_slice O_s.out
  subst eo
  have HC:=Aside0.mk ci
  have HSL:=Aside0.mk (show seen.length = 256 from HI.out.2.2.1)
  by_cases ce : i < (l0.length : Int)
  case pos =>
   have cb1 : decide (i < (l0.length : Int)) = true:=decide_eq_true ce
   have cb2 : decide (i < 60) = false:=decide_eq_false (by have h2:=HI.out;omega)
   clear ce ci HI HQ h60
   have hidx : ∀ W_ : World,(Instr.indexAt 40 (.pointer (some ⟨g7,0,none⟩)) (.int .u8 a1)).run Try.prog W_ = .ok (.pointer (some ⟨g7,a1.toNat,none⟩)) W_:=idx_run g7 a1 HA.out.1 HA.out.2
   have hw1 : IntKind.u64.wrap a1 = a1:=by rw [IntKind.wrap_u64];have h_:=HA.out;omega
   obtain ⟨sv,hsv⟩ : ∃ b_ : Bool,seen.getD a1.toNat false = b_:=⟨_,rfl⟩
   have HSV:=Aside0.mk hsv
   have hb3:=HB3.out
   rw [hsv] at hb3
   subst hb3
   clear hsv
   have kb : (b3 == b3) = true:=by cases b3 <;> rfl
   have kc : (c == c) = true:=beq_self_eq_true c
   go_upto_region 12 with fail
   have n2_:=Aside0.mk (below_drew1 HB.out)
   have n3_:=Aside0.mk (blk_drew BK.out)
   have n4_:=Aside0.mk (Kd.R_drew O_s.out)
   clear HB BK O_s
   have HB:=n2_
   have BK:=n3_
   have O_s:=n4_
   clear n2_ n3_ n4_
   (try simp only [Act.put,List.setIfInBounds_toArray,List.set_cons_zero,List.set_cons_succ])
   refine start_ (n:=22) (S:=fun w' => w'.cell? ⟨g7,a1.toNat,none⟩ = some (.bool b3)) (ds:=[]) #[false,false,false,false,false,false,false,false,false,false,false,false,false,false,false,false,false,false,false,false,false,false] (by kernel_rfl) rfl rfl (((arr_cell BK.out (by have h_:=HA.out;have h2_:=HSL.out;omega)).trans (congrArg (fun b_ => some (Value.bool b_)) HSV.out))) (fun hHeld => ?_)
   generalize wr.drew = w15 at HB BK O_s hHeld ⊢
   refine pure_ (i:=0) (N:=some 49) (v:=?_) (a':=?_) #[true,false,false,false,false,false,false,false,false,false,false,false,false,false,false,false,false,false,false,false,false,false] rfl rfl (by kernel_rfl) (fun _ _ _ h => h) (Or.inl ⟨by rfl,?_⟩) ?_ ?_
   rotate_left
   ·intro w'
    go_simp
    with_reducible rfl
   rotate_left
   ·simp only [Act.put,List.setIfInBounds_toArray,List.set_cons_zero,List.set_cons_succ,i64_w,i32_w]
    rfl
   refine pure_ (i:=1) (N:=some 50) (v:=?_) (a':=?_) #[true,true,false,false,false,false,false,false,false,false,false,false,false,false,false,false,false,false,false,false,false,false] rfl rfl (by kernel_rfl) (fun _ _ _ h => h) (Or.inl ⟨by rfl,?_⟩) ?_ ?_
   rotate_left
   ·intro w'
    go_simp
    with_reducible rfl
   rotate_left
   ·simp only [Act.put,List.setIfInBounds_toArray,List.set_cons_zero,List.set_cons_succ,i64_w,i32_w]
    rfl
   refine pure_ (i:=2) (N:=some 51) (v:=?_) (a':=?_) #[true,true,true,false,false,false,false,false,false,false,false,false,false,false,false,false,false,false,false,false,false,false] rfl rfl (by kernel_rfl) (fun _ _ _ h => h) (Or.inl ⟨by rfl,?_⟩) ?_ ?_
   rotate_left
   ·intro w'
    go_simp
    with_reducible rfl
   rotate_left
   ·simp only [Act.put,List.setIfInBounds_toArray,List.set_cons_zero,List.set_cons_succ,i64_w,i32_w]
    rfl
   refine one_ (i:=3) (N:=some 52) #[true,true,true,true,false,false,false,false,false,false,false,false,false,false,false,false,false,false,false,false,false,false] rfl rfl (by kernel_rfl) (by decide) (fun K hK => ?_)
   refine goes_ Try.func12 (by kernel_rfl) rfl #[.slice As s_.length cs] (by rfl) rfl rfl (by (try simp only [List.map_toArray,List.map_cons,List.map_nil]);first | done | rfl) ?_
   refine (span_Check.calls k As cs s_ true _ (Kd.R_reads' O_s.out).2.2 (Kd.R_reads' O_s.out).2.1 P2.out).mono ?_
   rintro e_ w16 ⟨rfl,hb⟩
   refine ⟨_,rfl,?_⟩
   have n5_:=Aside0.mk (below_step HB.out hb)
   have n6_:=Aside0.mk (blk_below BK.out hb)
   have n7_:=Aside0.mk (Kd.R_below O_s.out hb)
   clear HB BK O_s
   have HB:=n5_
   have BK:=n6_
   have O_s:=n7_
   clear n5_ n6_ n7_
   clear hb
   refine hK.out _ _ (((arr_cell BK.out (by have h_:=HA.out;have h2_:=HSL.out;omega)).trans (congrArg (fun b_ => some (Value.bool b_)) HSV.out))) (fun hHeld => ?_)
   clear hK K
   refine norm_ (a':=?_) ?_ ?_
   rotate_left
   ·show Act.put _ (some 52) _ = _
    simp only [Act.put,List.setIfInBounds_toArray,List.set_cons_zero,List.set_cons_succ,i64_w,i32_w]
    rfl
   refine pure_ (i:=4) (N:=some 53) (v:=?_) (a':=?_) #[true,true,true,true,true,false,false,false,false,false,false,false,false,false,false,false,false,false,false,false,false,false] rfl rfl (by kernel_rfl) (fun _ _ _ h => h) (Or.inl ⟨by rfl,?_⟩) ?_ ?_
   rotate_left
   ·intro w'
    go_simp
    with_reducible rfl
   rotate_left
   ·simp only [Act.put,List.setIfInBounds_toArray,List.set_cons_zero,List.set_cons_succ,i64_w,i32_w]
    rfl
   refine pure_ (i:=5) (N:=some 54) (v:=?_) (a':=?_) #[true,true,true,true,true,true,false,false,false,false,false,false,false,false,false,false,false,false,false,false,false,false] rfl rfl (by kernel_rfl) (fun _ _ _ h => h) (Or.inl ⟨by rfl,?_⟩) ?_ ?_
   rotate_left
   ·intro w'
    go_simp
    with_reducible rfl
   rotate_left
   ·simp only [Act.put,List.setIfInBounds_toArray,List.set_cons_zero,List.set_cons_succ,i64_w,i32_w]
    rfl
   refine pure_ (i:=6) (N:=some 55) (v:=?_) (a':=?_) #[true,true,true,true,true,true,true,false,false,false,false,false,false,false,false,false,false,false,false,false,false,false] rfl rfl (by kernel_rfl) (fun _ _ _ h => h) (Or.inl ⟨by rfl,?_⟩) ?_ ?_
   rotate_left
   ·intro w'
    go_simp
    with_reducible rfl
   rotate_left
   ·simp only [Act.put,List.setIfInBounds_toArray,List.set_cons_zero,List.set_cons_succ,i64_w,i32_w]
    rfl
   refine pure_ (i:=8) (N:=some 57) (v:=?_) (a':=?_) #[true,true,true,true,true,true,true,false,true,false,false,false,false,false,false,false,false,false,false,false,false,false] rfl rfl (by kernel_rfl) (fun _ _ _ h => h) (Or.inl ⟨by rfl,?_⟩) ?_ ?_
   rotate_left
   ·intro w'
    go_simp
    with_reducible rfl
   rotate_left
   ·simp only [Act.put,List.setIfInBounds_toArray,List.set_cons_zero,List.set_cons_succ,i64_w,i32_w]
    rfl
   refine one_ (i:=7) (N:=some 56) #[true,true,true,true,true,true,true,true,true,false,false,false,false,false,false,false,false,false,false,false,false,false] rfl rfl (by kernel_rfl) (by decide) (fun K hK => ?_)
   refine goes_ Try.func25 (by kernel_rfl) rfl #[.slice As s_.length cs] (by rfl) rfl rfl (by (try simp only [List.map_toArray,List.map_cons,List.map_nil]);first | done | rfl) ?_
   refine (span_Size.calls k As cs s_ c _ (Kd.R_reads' O_s.out).2.2 (Kd.R_reads' O_s.out).2.1 P3.out).mono ?_
   rintro e_ w17 ⟨rfl,hb⟩
   refine ⟨_,rfl,?_⟩
   have n8_:=Aside0.mk (below_step HB.out hb)
   have n9_:=Aside0.mk (blk_below BK.out hb)
   have n10_:=Aside0.mk (Kd.R_below O_s.out hb)
   clear HB BK O_s
   have HB:=n8_
   have BK:=n9_
   have O_s:=n10_
   clear n8_ n9_ n10_
   clear hb
   refine hK.out _ _ (((arr_cell BK.out (by have h_:=HA.out;have h2_:=HSL.out;omega)).trans (congrArg (fun b_ => some (Value.bool b_)) HSV.out))) (fun hHeld => ?_)
   clear hK K
   refine norm_ (a':=?_) ?_ ?_
   rotate_left
   ·show Act.put _ (some 56) _ = _
    simp only [Act.put,List.setIfInBounds_toArray,List.set_cons_zero,List.set_cons_succ,i64_w,i32_w]
    rfl
   refine pure_ (i:=9) (N:=some 58) (v:=?_) (a':=?_) #[true,true,true,true,true,true,true,true,true,true,false,false,false,false,false,false,false,false,false,false,false,false] rfl rfl (by kernel_rfl) (fun _ _ _ h => h) (Or.inl ⟨by rfl,?_⟩) ?_ ?_
   rotate_left
   ·intro w'
    go_simp
    with_reducible rfl
   rotate_left
   ·simp only [Act.put,List.setIfInBounds_toArray,List.set_cons_zero,List.set_cons_succ,i64_w,i32_w]
    rfl
   refine pure_ (i:=10) (N:=some 59) (v:=?_) (a':=?_) #[true,true,true,true,true,true,true,true,true,true,true,false,false,false,false,false,false,false,false,false,false,false] rfl rfl (by kernel_rfl) (fun _ _ _ h => h) (Or.inl ⟨by rfl,?_⟩) ?_ ?_
   rotate_left
   ·intro w'
    go_simp
    with_reducible rfl
   rotate_left
   ·simp only [Act.put,List.setIfInBounds_toArray,List.set_cons_zero,List.set_cons_succ,i64_w,i32_w]
    rfl
   refine pure_ (i:=11) (N:=some 60) (v:=?_) (a':=?_) #[true,true,true,true,true,true,true,true,true,true,true,true,false,false,false,false,false,false,false,false,false,false] rfl rfl (by kernel_rfl) (fun _ _ _ h => h) (Or.inl ⟨by rfl,?_⟩) ?_ ?_
   rotate_left
   ·intro w'
    go_simp
    with_reducible rfl
   rotate_left
   ·simp only [Act.put,List.setIfInBounds_toArray,List.set_cons_zero,List.set_cons_succ,i64_w,i32_w]
    rfl
   refine pure_ (i:=12) (N:=some 61) (v:=?_) (a':=?_) #[true,true,true,true,true,true,true,true,true,true,true,true,true,false,false,false,false,false,false,false,false,false] rfl rfl (by kernel_rfl) (fun _ _ _ h => h) (Or.inl ⟨by rfl,?_⟩) ?_ ?_
   rotate_left
   ·intro w'
    go_simp
    with_reducible rfl
   rotate_left
   ·simp only [Act.put,List.setIfInBounds_toArray,List.set_cons_zero,List.set_cons_succ,i64_w,i32_w]
    rfl
   refine pure_ (i:=13) (N:=some 62) (v:=?_) (a':=?_) #[true,true,true,true,true,true,true,true,true,true,true,true,true,true,false,false,false,false,false,false,false,false] rfl rfl (by kernel_rfl) (fun _ _ _ h => h) (Or.inl ⟨by rfl,?_⟩) ?_ ?_
   rotate_left
   ·intro w'
    go_simp
    with_reducible rfl
   rotate_left
   ·simp only [Act.put,List.setIfInBounds_toArray,List.set_cons_zero,List.set_cons_succ,i64_w,i32_w]
    rfl
   refine pure_ (i:=14) (N:=some 63) (v:=?_) (a':=?_) #[true,true,true,true,true,true,true,true,true,true,true,true,true,true,true,false,false,false,false,false,false,false] rfl rfl (by kernel_rfl) (fun _ _ _ h => h) (Or.inl ⟨by rfl,?_⟩) ?_ ?_
   rotate_left
   ·intro w'
    go_simp
    with_reducible rfl
   rotate_left
   ·simp only [Act.put,List.setIfInBounds_toArray,List.set_cons_zero,List.set_cons_succ,i64_w,i32_w]
    rfl
   refine pure_ (i:=16) (N:=some 65) (v:=?_) (a':=?_) #[true,true,true,true,true,true,true,true,true,true,true,true,true,true,true,false,true,false,false,false,false,false] rfl rfl (by kernel_rfl) (fun _ _ _ h => h) (Or.inl ⟨by rfl,?_⟩) ?_ ?_
   rotate_left
   ·intro w'
    go_simp
    with_reducible rfl
   rotate_left
   ·simp only [Act.put,List.setIfInBounds_toArray,List.set_cons_zero,List.set_cons_succ,i64_w,i32_w]
    rfl
   refine pure_ (i:=17) (N:=some 66) (v:=?_) (a':=?_) #[true,true,true,true,true,true,true,true,true,true,true,true,true,true,true,false,true,true,false,false,false,false] rfl rfl (by kernel_rfl) (fun _ _ _ h => h) (Or.inl ⟨by rfl,?_⟩) ?_ ?_
   rotate_left
   ·intro w'
    go_simp
    with_reducible rfl
   rotate_left
   ·simp only [Act.put,List.setIfInBounds_toArray,List.set_cons_zero,List.set_cons_succ,i64_w,i32_w]
    rfl
   refine take_ (i:=18) (N:=some 67) (v:=?_) (a':=?_) #[true,true,true,true,true,true,true,true,true,true,true,true,true,true,true,false,true,true,true,false,false,false] rfl rfl (by kernel_rfl) (fun _ _ _ h => h) (Or.inl ⟨by rfl,?_⟩) hHeld ?_ ?_
   rotate_left
   ·intro w' s0
    go_simp
    with_reducible rfl
   rotate_left
   ·simp only [Act.put,List.setIfInBounds_toArray,List.set_cons_zero,List.set_cons_succ,i64_w,i32_w]
    rfl
   refine one_ (i:=15) (N:=some 64) #[true,true,true,true,true,true,true,true,true,true,true,true,true,true,true,true,true,true,true,false,false,false] rfl rfl (by kernel_rfl) (by decide) (fun K hK => ?_)
   refine goes_ Try.func14 (by kernel_rfl) rfl #[.slice As s_.length cs,.int .u64 a1] (by rfl) rfl rfl (by (try simp only [List.map_toArray,List.map_cons,List.map_nil]);first | done | rfl) ?_
   refine (span_Has.calls k As cs s_ a1 b3 _ (Kd.R_reads' O_s.out).2.2 (Kd.R_reads' O_s.out).2.1 P4.out).mono ?_
   rintro e_ w18 ⟨rfl,hb⟩
   refine ⟨_,rfl,?_⟩
   have n11_:=Aside0.mk (below_step HB.out hb)
   have n12_:=Aside0.mk (blk_below BK.out hb)
   have n13_:=Aside0.mk (Kd.R_below O_s.out hb)
   clear HB BK O_s
   have HB:=n11_
   have BK:=n12_
   have O_s:=n13_
   clear n11_ n12_ n13_
   clear hb
   refine hK.out _ _ (((arr_cell BK.out (by have h_:=HA.out;have h2_:=HSL.out;omega)).trans (congrArg (fun b_ => some (Value.bool b_)) HSV.out))) (fun hHeld => ?_)
   clear hK K
   refine norm_ (a':=?_) ?_ ?_
   rotate_left
   ·show Act.put _ (some 64) _ = _
    simp only [Act.put,List.setIfInBounds_toArray,List.set_cons_zero,List.set_cons_succ,i64_w,i32_w]
    rfl
   refine pure_ (i:=19) (N:=some 68) (v:=?_) (a':=?_) #[true,true,true,true,true,true,true,true,true,true,true,true,true,true,true,true,true,true,true,true,false,false] rfl rfl (by kernel_rfl) (fun _ _ _ h => h) (Or.inl ⟨by rfl,?_⟩) ?_ ?_
   rotate_left
   ·intro w'
    go_simp
    with_reducible rfl
   rotate_left
   ·simp only [Act.put,List.setIfInBounds_toArray,List.set_cons_zero,List.set_cons_succ,i64_w,i32_w]
    rfl
   refine pure_ (i:=20) (N:=some 69) (v:=?_) (a':=?_) #[true,true,true,true,true,true,true,true,true,true,true,true,true,true,true,true,true,true,true,true,true,false] rfl rfl (by kernel_rfl) (fun _ _ _ h => h) (Or.inl ⟨by rfl,?_⟩) ?_ ?_
   rotate_left
   ·intro w'
    go_simp
    with_reducible rfl
   rotate_left
   ·simp only [Act.put,List.setIfInBounds_toArray,List.set_cons_zero,List.set_cons_succ,i64_w,i32_w]
    rfl
   refine pure_ (i:=21) (N:=some 4) (v:=?_) (a':=?_) #[true,true,true,true,true,true,true,true,true,true,true,true,true,true,true,true,true,true,true,true,true,true] rfl rfl (by kernel_rfl) (fun _ _ _ h => h) (Or.inl ⟨by rfl,?_⟩) ?_ ?_
   rotate_left
   ·intro w'
    go_simp
    with_reducible rfl
   rotate_left
   ·simp only [Act.put,List.setIfInBounds_toArray,List.set_cons_zero,List.set_cons_succ,i64_w,i32_w]
    rfl
   refine done_ (by kernel_rfl) ?_
   go_wp2
   go_ret
   exact ⟨rfl,HB.out⟩
  case neg =>
   have cb1 : decide (i < (l0.length : Int)) = false:=decide_eq_false ce
   clear ce ci HI HQ h60
   have hidx : ∀ W_ : World,(Instr.indexAt 40 (.pointer (some ⟨g7,0,none⟩)) (.int .u8 a1)).run Try.prog W_ = .ok (.pointer (some ⟨g7,a1.toNat,none⟩)) W_:=idx_run g7 a1 HA.out.1 HA.out.2
   have hw1 : IntKind.u64.wrap a1 = a1:=by rw [IntKind.wrap_u64];have h_:=HA.out;omega
   obtain ⟨sv,hsv⟩ : ∃ b_ : Bool,seen.getD a1.toNat false = b_:=⟨_,rfl⟩
   have HSV:=Aside0.mk hsv
   have hb3:=HB3.out
   rw [hsv] at hb3
   subst hb3
   clear hsv
   have kb : (b3 == b3) = true:=by cases b3 <;> rfl
   have kc : (c == c) = true:=beq_self_eq_true c
   go_upto_region 12 with fail
   have n2_:=Aside0.mk (below_drew1 HB.out)
   have n3_:=Aside0.mk (blk_drew BK.out)
   have n4_:=Aside0.mk (Kd.R_drew O_s.out)
   clear HB BK O_s
   have HB:=n2_
   have BK:=n3_
   have O_s:=n4_
   clear n2_ n3_ n4_
   (try simp only [Act.put,List.setIfInBounds_toArray,List.set_cons_zero,List.set_cons_succ])
   refine start_ (n:=22) (S:=fun w' => w'.cell? ⟨g7,a1.toNat,none⟩ = some (.bool b3)) (ds:=[]) #[false,false,false,false,false,false,false,false,false,false,false,false,false,false,false,false,false,false,false,false,false,false] (by kernel_rfl) rfl rfl (((arr_cell BK.out (by have h_:=HA.out;have h2_:=HSL.out;omega)).trans (congrArg (fun b_ => some (Value.bool b_)) HSV.out))) (fun hHeld => ?_)
   generalize wr.drew = w15 at HB BK O_s hHeld ⊢
   refine pure_ (i:=0) (N:=some 49) (v:=?_) (a':=?_) #[true,false,false,false,false,false,false,false,false,false,false,false,false,false,false,false,false,false,false,false,false,false] rfl rfl (by kernel_rfl) (fun _ _ _ h => h) (Or.inl ⟨by rfl,?_⟩) ?_ ?_
   rotate_left
   ·intro w'
    go_simp
    with_reducible rfl
   rotate_left
   ·simp only [Act.put,List.setIfInBounds_toArray,List.set_cons_zero,List.set_cons_succ,i64_w,i32_w]
    rfl
   refine pure_ (i:=1) (N:=some 50) (v:=?_) (a':=?_) #[true,true,false,false,false,false,false,false,false,false,false,false,false,false,false,false,false,false,false,false,false,false] rfl rfl (by kernel_rfl) (fun _ _ _ h => h) (Or.inl ⟨by rfl,?_⟩) ?_ ?_
   rotate_left
   ·intro w'
    go_simp
    with_reducible rfl
   rotate_left
   ·simp only [Act.put,List.setIfInBounds_toArray,List.set_cons_zero,List.set_cons_succ,i64_w,i32_w]
    rfl
   refine pure_ (i:=2) (N:=some 51) (v:=?_) (a':=?_) #[true,true,true,false,false,false,false,false,false,false,false,false,false,false,false,false,false,false,false,false,false,false] rfl rfl (by kernel_rfl) (fun _ _ _ h => h) (Or.inl ⟨by rfl,?_⟩) ?_ ?_
   rotate_left
   ·intro w'
    go_simp
    with_reducible rfl
   rotate_left
   ·simp only [Act.put,List.setIfInBounds_toArray,List.set_cons_zero,List.set_cons_succ,i64_w,i32_w]
    rfl
   refine one_ (i:=3) (N:=some 52) #[true,true,true,true,false,false,false,false,false,false,false,false,false,false,false,false,false,false,false,false,false,false] rfl rfl (by kernel_rfl) (by decide) (fun K hK => ?_)
   refine goes_ Try.func12 (by kernel_rfl) rfl #[.slice As s_.length cs] (by rfl) rfl rfl (by (try simp only [List.map_toArray,List.map_cons,List.map_nil]);first | done | rfl) ?_
   refine (span_Check.calls k As cs s_ true _ (Kd.R_reads' O_s.out).2.2 (Kd.R_reads' O_s.out).2.1 P2.out).mono ?_
   rintro e_ w16 ⟨rfl,hb⟩
   refine ⟨_,rfl,?_⟩
   have n5_:=Aside0.mk (below_step HB.out hb)
   have n6_:=Aside0.mk (blk_below BK.out hb)
   have n7_:=Aside0.mk (Kd.R_below O_s.out hb)
   clear HB BK O_s
   have HB:=n5_
   have BK:=n6_
   have O_s:=n7_
   clear n5_ n6_ n7_
   clear hb
   refine hK.out _ _ (((arr_cell BK.out (by have h_:=HA.out;have h2_:=HSL.out;omega)).trans (congrArg (fun b_ => some (Value.bool b_)) HSV.out))) (fun hHeld => ?_)
   clear hK K
   refine norm_ (a':=?_) ?_ ?_
   rotate_left
   ·show Act.put _ (some 52) _ = _
    simp only [Act.put,List.setIfInBounds_toArray,List.set_cons_zero,List.set_cons_succ,i64_w,i32_w]
    rfl
   refine pure_ (i:=4) (N:=some 53) (v:=?_) (a':=?_) #[true,true,true,true,true,false,false,false,false,false,false,false,false,false,false,false,false,false,false,false,false,false] rfl rfl (by kernel_rfl) (fun _ _ _ h => h) (Or.inl ⟨by rfl,?_⟩) ?_ ?_
   rotate_left
   ·intro w'
    go_simp
    with_reducible rfl
   rotate_left
   ·simp only [Act.put,List.setIfInBounds_toArray,List.set_cons_zero,List.set_cons_succ,i64_w,i32_w]
    rfl
   refine pure_ (i:=5) (N:=some 54) (v:=?_) (a':=?_) #[true,true,true,true,true,true,false,false,false,false,false,false,false,false,false,false,false,false,false,false,false,false] rfl rfl (by kernel_rfl) (fun _ _ _ h => h) (Or.inl ⟨by rfl,?_⟩) ?_ ?_
   rotate_left
   ·intro w'
    go_simp
    with_reducible rfl
   rotate_left
   ·simp only [Act.put,List.setIfInBounds_toArray,List.set_cons_zero,List.set_cons_succ,i64_w,i32_w]
    rfl
   refine pure_ (i:=6) (N:=some 55) (v:=?_) (a':=?_) #[true,true,true,true,true,true,true,false,false,false,false,false,false,false,false,false,false,false,false,false,false,false] rfl rfl (by kernel_rfl) (fun _ _ _ h => h) (Or.inl ⟨by rfl,?_⟩) ?_ ?_
   rotate_left
   ·intro w'
    go_simp
    with_reducible rfl
   rotate_left
   ·simp only [Act.put,List.setIfInBounds_toArray,List.set_cons_zero,List.set_cons_succ,i64_w,i32_w]
    rfl
   refine pure_ (i:=8) (N:=some 57) (v:=?_) (a':=?_) #[true,true,true,true,true,true,true,false,true,false,false,false,false,false,false,false,false,false,false,false,false,false] rfl rfl (by kernel_rfl) (fun _ _ _ h => h) (Or.inl ⟨by rfl,?_⟩) ?_ ?_
   rotate_left
   ·intro w'
    go_simp
    with_reducible rfl
   rotate_left
   ·simp only [Act.put,List.setIfInBounds_toArray,List.set_cons_zero,List.set_cons_succ,i64_w,i32_w]
    rfl
   refine one_ (i:=7) (N:=some 56) #[true,true,true,true,true,true,true,true,true,false,false,false,false,false,false,false,false,false,false,false,false,false] rfl rfl (by kernel_rfl) (by decide) (fun K hK => ?_)
   refine goes_ Try.func25 (by kernel_rfl) rfl #[.slice As s_.length cs] (by rfl) rfl rfl (by (try simp only [List.map_toArray,List.map_cons,List.map_nil]);first | done | rfl) ?_
   refine (span_Size.calls k As cs s_ c _ (Kd.R_reads' O_s.out).2.2 (Kd.R_reads' O_s.out).2.1 P3.out).mono ?_
   rintro e_ w17 ⟨rfl,hb⟩
   refine ⟨_,rfl,?_⟩
   have n8_:=Aside0.mk (below_step HB.out hb)
   have n9_:=Aside0.mk (blk_below BK.out hb)
   have n10_:=Aside0.mk (Kd.R_below O_s.out hb)
   clear HB BK O_s
   have HB:=n8_
   have BK:=n9_
   have O_s:=n10_
   clear n8_ n9_ n10_
   clear hb
   refine hK.out _ _ (((arr_cell BK.out (by have h_:=HA.out;have h2_:=HSL.out;omega)).trans (congrArg (fun b_ => some (Value.bool b_)) HSV.out))) (fun hHeld => ?_)
   clear hK K
   refine norm_ (a':=?_) ?_ ?_
   rotate_left
   ·show Act.put _ (some 56) _ = _
    simp only [Act.put,List.setIfInBounds_toArray,List.set_cons_zero,List.set_cons_succ,i64_w,i32_w]
    rfl
   refine pure_ (i:=9) (N:=some 58) (v:=?_) (a':=?_) #[true,true,true,true,true,true,true,true,true,true,false,false,false,false,false,false,false,false,false,false,false,false] rfl rfl (by kernel_rfl) (fun _ _ _ h => h) (Or.inl ⟨by rfl,?_⟩) ?_ ?_
   rotate_left
   ·intro w'
    go_simp
    with_reducible rfl
   rotate_left
   ·simp only [Act.put,List.setIfInBounds_toArray,List.set_cons_zero,List.set_cons_succ,i64_w,i32_w]
    rfl
   refine pure_ (i:=10) (N:=some 59) (v:=?_) (a':=?_) #[true,true,true,true,true,true,true,true,true,true,true,false,false,false,false,false,false,false,false,false,false,false] rfl rfl (by kernel_rfl) (fun _ _ _ h => h) (Or.inl ⟨by rfl,?_⟩) ?_ ?_
   rotate_left
   ·intro w'
    go_simp
    with_reducible rfl
   rotate_left
   ·simp only [Act.put,List.setIfInBounds_toArray,List.set_cons_zero,List.set_cons_succ,i64_w,i32_w]
    rfl
   refine pure_ (i:=11) (N:=some 60) (v:=?_) (a':=?_) #[true,true,true,true,true,true,true,true,true,true,true,true,false,false,false,false,false,false,false,false,false,false] rfl rfl (by kernel_rfl) (fun _ _ _ h => h) (Or.inl ⟨by rfl,?_⟩) ?_ ?_
   rotate_left
   ·intro w'
    go_simp
    with_reducible rfl
   rotate_left
   ·simp only [Act.put,List.setIfInBounds_toArray,List.set_cons_zero,List.set_cons_succ,i64_w,i32_w]
    rfl
   refine pure_ (i:=12) (N:=some 61) (v:=?_) (a':=?_) #[true,true,true,true,true,true,true,true,true,true,true,true,true,false,false,false,false,false,false,false,false,false] rfl rfl (by kernel_rfl) (fun _ _ _ h => h) (Or.inl ⟨by rfl,?_⟩) ?_ ?_
   rotate_left
   ·intro w'
    go_simp
    with_reducible rfl
   rotate_left
   ·simp only [Act.put,List.setIfInBounds_toArray,List.set_cons_zero,List.set_cons_succ,i64_w,i32_w]
    rfl
   refine pure_ (i:=13) (N:=some 62) (v:=?_) (a':=?_) #[true,true,true,true,true,true,true,true,true,true,true,true,true,true,false,false,false,false,false,false,false,false] rfl rfl (by kernel_rfl) (fun _ _ _ h => h) (Or.inl ⟨by rfl,?_⟩) ?_ ?_
   rotate_left
   ·intro w'
    go_simp
    with_reducible rfl
   rotate_left
   ·simp only [Act.put,List.setIfInBounds_toArray,List.set_cons_zero,List.set_cons_succ,i64_w,i32_w]
    rfl
   refine pure_ (i:=14) (N:=some 63) (v:=?_) (a':=?_) #[true,true,true,true,true,true,true,true,true,true,true,true,true,true,true,false,false,false,false,false,false,false] rfl rfl (by kernel_rfl) (fun _ _ _ h => h) (Or.inl ⟨by rfl,?_⟩) ?_ ?_
   rotate_left
   ·intro w'
    go_simp
    with_reducible rfl
   rotate_left
   ·simp only [Act.put,List.setIfInBounds_toArray,List.set_cons_zero,List.set_cons_succ,i64_w,i32_w]
    rfl
   refine pure_ (i:=16) (N:=some 65) (v:=?_) (a':=?_) #[true,true,true,true,true,true,true,true,true,true,true,true,true,true,true,false,true,false,false,false,false,false] rfl rfl (by kernel_rfl) (fun _ _ _ h => h) (Or.inl ⟨by rfl,?_⟩) ?_ ?_
   rotate_left
   ·intro w'
    go_simp
    with_reducible rfl
   rotate_left
   ·simp only [Act.put,List.setIfInBounds_toArray,List.set_cons_zero,List.set_cons_succ,i64_w,i32_w]
    rfl
   refine pure_ (i:=17) (N:=some 66) (v:=?_) (a':=?_) #[true,true,true,true,true,true,true,true,true,true,true,true,true,true,true,false,true,true,false,false,false,false] rfl rfl (by kernel_rfl) (fun _ _ _ h => h) (Or.inl ⟨by rfl,?_⟩) ?_ ?_
   rotate_left
   ·intro w'
    go_simp
    with_reducible rfl
   rotate_left
   ·simp only [Act.put,List.setIfInBounds_toArray,List.set_cons_zero,List.set_cons_succ,i64_w,i32_w]
    rfl
   refine take_ (i:=18) (N:=some 67) (v:=?_) (a':=?_) #[true,true,true,true,true,true,true,true,true,true,true,true,true,true,true,false,true,true,true,false,false,false] rfl rfl (by kernel_rfl) (fun _ _ _ h => h) (Or.inl ⟨by rfl,?_⟩) hHeld ?_ ?_
   rotate_left
   ·intro w' s0
    go_simp
    with_reducible rfl
   rotate_left
   ·simp only [Act.put,List.setIfInBounds_toArray,List.set_cons_zero,List.set_cons_succ,i64_w,i32_w]
    rfl
   refine one_ (i:=15) (N:=some 64) #[true,true,true,true,true,true,true,true,true,true,true,true,true,true,true,true,true,true,true,false,false,false] rfl rfl (by kernel_rfl) (by decide) (fun K hK => ?_)
   refine goes_ Try.func14 (by kernel_rfl) rfl #[.slice As s_.length cs,.int .u64 a1] (by rfl) rfl rfl (by (try simp only [List.map_toArray,List.map_cons,List.map_nil]);first | done | rfl) ?_
   refine (span_Has.calls k As cs s_ a1 b3 _ (Kd.R_reads' O_s.out).2.2 (Kd.R_reads' O_s.out).2.1 P4.out).mono ?_
   rintro e_ w18 ⟨rfl,hb⟩
   refine ⟨_,rfl,?_⟩
   have n11_:=Aside0.mk (below_step HB.out hb)
   have n12_:=Aside0.mk (blk_below BK.out hb)
   have n13_:=Aside0.mk (Kd.R_below O_s.out hb)
   clear HB BK O_s
   have HB:=n11_
   have BK:=n12_
   have O_s:=n13_
   clear n11_ n12_ n13_
   clear hb
   refine hK.out _ _ (((arr_cell BK.out (by have h_:=HA.out;have h2_:=HSL.out;omega)).trans (congrArg (fun b_ => some (Value.bool b_)) HSV.out))) (fun hHeld => ?_)
   clear hK K
   refine norm_ (a':=?_) ?_ ?_
   rotate_left
   ·show Act.put _ (some 64) _ = _
    simp only [Act.put,List.setIfInBounds_toArray,List.set_cons_zero,List.set_cons_succ,i64_w,i32_w]
    rfl
   refine pure_ (i:=19) (N:=some 68) (v:=?_) (a':=?_) #[true,true,true,true,true,true,true,true,true,true,true,true,true,true,true,true,true,true,true,true,false,false] rfl rfl (by kernel_rfl) (fun _ _ _ h => h) (Or.inl ⟨by rfl,?_⟩) ?_ ?_
   rotate_left
   ·intro w'
    go_simp
    with_reducible rfl
   rotate_left
   ·simp only [Act.put,List.setIfInBounds_toArray,List.set_cons_zero,List.set_cons_succ,i64_w,i32_w]
    rfl
   refine pure_ (i:=20) (N:=some 69) (v:=?_) (a':=?_) #[true,true,true,true,true,true,true,true,true,true,true,true,true,true,true,true,true,true,true,true,true,false] rfl rfl (by kernel_rfl) (fun _ _ _ h => h) (Or.inl ⟨by rfl,?_⟩) ?_ ?_
   rotate_left
   ·intro w'
    go_simp
    with_reducible rfl
   rotate_left
   ·simp only [Act.put,List.setIfInBounds_toArray,List.set_cons_zero,List.set_cons_succ,i64_w,i32_w]
    rfl
   refine pure_ (i:=21) (N:=some 4) (v:=?_) (a':=?_) #[true,true,true,true,true,true,true,true,true,true,true,true,true,true,true,true,true,true,true,true,true,true] rfl rfl (by kernel_rfl) (fun _ _ _ h => h) (Or.inl ⟨by rfl,?_⟩) ?_ ?_
   rotate_left
   ·intro w'
    go_simp
    with_reducible rfl
   rotate_left
   ·simp only [Act.put,List.setIfInBounds_toArray,List.set_cons_zero,List.set_cons_succ,i64_w,i32_w]
    rfl
   refine done_ (by kernel_rfl) ?_
   go_wp2
   go_ret
   exact ⟨rfl,HB.out⟩

end Go.Proofs.Ytgaccappklhojaa.P
