-- Printed for this claim by xprint.py of this session: contracts of this session's own stand in for what the print does not take
import Derived.Test.YtndfddejdfnleaaPx0
import Derived.Test.YtndfddejdfnleaaPx2
import Derived.Test.YtndfddejdfnleaaPx3
namespace Go.Proofs.Ytndfddejdfnleaa.P
open Go.RowKit Go.Proofs.YtndfddejdfnleaaW.PrintWords Go.Proofs.YtndfddejdfnleaaW.PrintLast Go.Proofs.YtndfddejdfnleaaW.PrintMore
attribute [local go_sem] max2_int min2_int max_two min_two max_three min_three max_four min_four   -- for this text's walks alone
set_option linter.unusedVariables false
set_option linter.unusedSimpArgs false

/-! ### gather_Size: function 13 -/
section
variable {α : Type} {d : Kd α} {e t base g k : Nat} {ok : Nat → Prop} {w W : World} {v x0 x1 x2 x3 x4 a0 a1 a2 a3 a4 : Value} {xs : List α} {cs : Array Value}
/-- A variable of five cells,written whole. -/
def set5z (W : World) (g : Nat) (a0 a1 a2 a3 a4 : Value) : World:=((((W.setCell ⟨g,0,none⟩ a0).setCell ⟨g,1,none⟩ a1).setCell ⟨g,2,none⟩ a2).setCell ⟨g,3,none⟩ a3).setCell ⟨g,4,none⟩ a4
theorem blk_put5z (h : W.heap[g]? = some (.cells #[x0,x1,x2,x3,x4] t (0,0))) : (set5z W g a0 a1 a2 a3 a4).heap[g]? = some (.cells #[a0,a1,a2,a3,a4] t (0,0)) :=
 blk_put (blk_put (blk_put (blk_put (blk_put h 0 a0 rfl) 1 a1 rfl) 2 a2 rfl) 3 a3 rfl) 4 a4 rfl
theorem blk_far5z (h : W.heap[k]? = some (.cells cs t (0,0))) (hne : k ≠ g) : (set5z W g a0 a1 a2 a3 a4).heap[k]? = some (.cells cs t (0,0)) :=
 blk_far (blk_far (blk_far (blk_far (blk_far h hne a0) hne a1) hne a2) hne a3) hne a4
theorem obj_far5z {o : Obj} (h : W.heap[k]? = some o) (hne : k ≠ g) : (set5z W g a0 a1 a2 a3 a4).heap[k]? = some o:=by
 unfold set5z
 rw [Below.heap_setCell _ _ _ _ hne,Below.heap_setCell _ _ _ _ hne,Below.heap_setCell _ _ _ _ hne,Below.heap_setCell _ _ _ _ hne,Below.heap_setCell _ _ _ _ hne]
 exact h
theorem R_set5z (h : d.R e W base ok v xs) (hb : W.heap[g]? = some (.cells cs t (0,0))) (ht : ∀ q,q ∈ e :: d.E → q ≠ t) : d.R e (set5z W g a0 a1 a2 a3 a4) base ok v xs :=
 Kd.R_mono (Kd.R_far (p:=⟨g,4,none⟩) (Kd.R_far (p:=⟨g,3,none⟩) (Kd.R_far (p:=⟨g,2,none⟩) (Kd.R_far (p:=⟨g,1,none⟩) (Kd.R_far (p:=⟨g,0,none⟩) (Kd.R_types h hb ht) (fun _ hk => hk.2) a0) (fun _ hk => hk.2) a1) (fun _ hk => hk.2) a2) (fun _ hk => hk.2) a3) (fun _ hk => hk.2) a4) (fun _ hk => hk.1)
theorem below_set5z (h : Below w.heap.size w W) (hg : w.heap.size ≤ g) : Below w.heap.size w (set5z W g a0 a1 a2 a3 a4):=below_set (below_set (below_set (below_set (below_set h hg) hg) hg) hg) hg
end
theorem ne_spz : ∀ q,q ∈ 41 :: k41.E → q ≠ 28:=by intro q hq;have h2 : q ∈ [41]:=hq;simp at h2;omega
theorem ne_byz : ∀ q,q ∈ 5 :: (Kd.int .u8).E → q ≠ 28:=by intro q hq;have h2 : q ∈ [5]:=hq;simp at h2;omega
theorem ne_by_spz : ∀ q,q ∈ 5 :: (Kd.int .u8).E → q ≠ 41:=by intro q hq;have h2 : q ∈ [5]:=hq;simp at h2;omega
theorem clone_u8z {l : List Int} (h : l.length < 1000000000) : bytes_Clone.f l = some l:=by
 unfold bytes_Clone.f
 rw [Option.bind_some,if_pos (by simp;omega),List.nil_append]
theorem clone_spz {l : List S41} (h : l.length < 1000000000) : api_Span.f l = some l:=by
 unfold api_Span.f
 rw [Option.bind_some,if_pos (by simp;omega),List.nil_append]
theorem own_okz {l1 : List S41} {l2 : List Int} (h1 : l1.length < 1000000000) (h2 : l2.length < 1000000000) (n : Int) (e : Bool) (z : Int) : gather_own.f n l1 l2 e z = some (n,l1,l2,e,z):=by
 unfold gather_own.f
 rw [clone_u8z h2,Option.bind_some,clone_spz h1,Option.bind_some]
set_option maxHeartbeats 8000000 in
set_option maxRecDepth 100000 in
/-- Size,where it is taken: what it hands back is in memory of its own. -/
theorem gather_Size.okz (nx : Int) (A1 : Option Addr) (c1 : Nat) (l1 : List S41) (A2 : Option Addr) (c2 : Nat) (l2 : List Int) (en : Bool) (sz e hi : Int) (w : World)
  (hr1 : Kd.C k41 w A1 l1.length l1) (hc1 : l1.length ≤ c1) (hr2 : Kd.C (Kd.int .u8) w A2 l2.length l2) (hc2 : l2.length ≤ c2) (hH : gather_High.f nx l1 l2 en sz = some hi) (hs : en = true → sz = e) (hh : hi ≤ e) (h1 : l1.length < 1000000000) (h2 : l2.length < 1000000000) :
  Calls Try.prog 13 #[.agg #[.int .u64 nx,.slice A1 l1.length c1,.slice A2 l2.length c2,.bool en,.int .u64 sz],.int .u64 e] w fun e9 w' => ∃ v1 v2 : Value,e9 = .returned (.tuple #[.agg #[.int .u64 nx,v1,v2,.bool true,.int .u64 e],.int .i64 0]) ∧ Kd.R k41 41 w' w.heap.size (fun _ => True) v1 l1 ∧ Kd.R (Kd.int .u8) 5 w' w.heap.size (fun _ => True) v2 l2 ∧ Below w.heap.size w w':=by
 have HR1:=Aside0.mk hr1
 have HR2:=Aside0.mk hr2
 have HC1:=Aside0.mk hc1
 have HC2:=Aside0.mk hc2
 have HH:=Aside0.mk hH
 have HO:=Aside0.mk (own_okz h1 h2 nx en sz)
 have HB:=Aside0.mk (Below.refl w.heap.size w)
 have ht : decide (e < hi) = false:=decide_eq_false (by omega)
 have hn : en = true → (sz != e) = false:=fun q => by rw [hs q];simp
 clear hr1 hr2 hc1 hc2 hH hs hh h1 h2
 have step : ∀ (b : Bool),en = b → Calls Try.prog 13 #[.agg #[.int .u64 nx,.slice A1 l1.length c1,.slice A2 l2.length c2,.bool en,.int .u64 sz],.int .u64 e] w fun e9 w' => ∃ v1 v2 : Value,e9 = .returned (.tuple #[.agg #[.int .u64 nx,v1,v2,.bool true,.int .u64 e],.int .i64 0]) ∧ Kd.R k41 41 w' w.heap.size (fun _ => True) v1 l1 ∧ Kd.R (Kd.int .u8) 5 w' w.heap.size (fun _ => True) v2 l2 ∧ Below w.heap.size w w':=by
  intro b hb0
  cases b with
  | false =>
   subst hb0
   clear hn
   go_enter Try.func13,Try.ntmps13
   go_upto_region 4 with (first
    | ((with_reducible refine gate_dst (N:=2) rfl ?_);refine box_event ?hg (N:=2) ?hd (cs:=#[.int .u64 nx,.slice A1 l1.length c1,.slice A2 l2.length c2,.bool false,.int .u64 sz]) (t:=28) ?hr ?_;(case hd => rfl);(case hg => rfl);(case hr => first | (go_simp;done) | (go_simp;rfl));intro gb2 hg w3 hbox hb;have n0_:=Aside0.mk (below_step HB.out hb);have GE2:=Aside0.mk (show w.heap.size ≤ gb2 by rw [hg];exact HB.out.size);clear HB;have HB:=n0_;have BK2:=Aside0.mk hbox;clear hbox hb hg n0_)
    | ((with_reducible refine gate_dst (N:=4) rfl ?_);refine box_event ?hg (N:=4) ?hd (cs:=#[.int .u64 0,.slice none 0 0,.slice none 0 0,.bool false,.int .u64 0]) (t:=28) ?hr ?_;(case hd => rfl);(case hg => rfl);(case hr => first | (go_simp;done) | (go_simp;rfl));intro gb4 hg w4 hbox hb;have n0_:=Aside0.mk (below_step HB.out hb);have GE4:=Aside0.mk (show w.heap.size ≤ gb4 by rw [hg];exact HB.out.size);have NB24 : gb2 ≠ gb4:=(by rw [hg];exact Nat.ne_of_lt (blk_lt BK2.out));have NB42:=NB24.symm;have n1_:=Aside0.mk (blk_below BK2.out hb);clear HB BK2;have HB:=n0_;have BK2:=n1_;have BK4:=Aside0.mk hbox;clear hbox hb hg n0_ n1_;have hx0 : w4.cell? ⟨gb2,0,none⟩ = some (.int .u64 nx):=(blk_cell BK2.out 0).trans rfl;have hx1 : w4.cell? ⟨gb2,1,none⟩ = some (.slice A1 l1.length c1):=(blk_cell BK2.out 1).trans rfl;have hx2 : w4.cell? ⟨gb2,2,none⟩ = some (.slice A2 l2.length c2):=(blk_cell BK2.out 2).trans rfl;have hx3 : w4.cell? ⟨gb2,3,none⟩ = some (.bool false):=(blk_cell BK2.out 3).trans rfl;have hx4 : w4.cell? ⟨gb2,4,none⟩ = some (.int .u64 sz):=(blk_cell BK2.out 4).trans rfl)
    | (go_at_call 12;(with_reducible refine (gather_High.calls nx _ _ l1 _ _ l2 false sz hi _ (Kd.C_below HR1.out HB.out) HC1.out (Kd.C_below HR2.out HB.out) HC2.out HH.out).mono ?_);rintro e9 w9 ⟨rfl,hb⟩;have n0_:=Aside0.mk (below_step HB.out hb);have n1_:=Aside0.mk (blk_below BK2.out hb);have n2_:=Aside0.mk (blk_below BK4.out hb);clear HB BK2 BK4 hx0 hx1 hx2 hx3 hx4;have HB:=n0_;have BK2:=n1_;have BK4:=n2_;clear hb n0_ n1_ n2_;have hx0 : w9.cell? ⟨gb2,0,none⟩ = some (.int .u64 nx):=(blk_cell BK2.out 0).trans rfl;have hx1 : w9.cell? ⟨gb2,1,none⟩ = some (.slice A1 l1.length c1):=(blk_cell BK2.out 1).trans rfl;have hx2 : w9.cell? ⟨gb2,2,none⟩ = some (.slice A2 l2.length c2):=(blk_cell BK2.out 2).trans rfl;have hx3 : w9.cell? ⟨gb2,3,none⟩ = some (.bool false):=(blk_cell BK2.out 3).trans rfl;have hx4 : w9.cell? ⟨gb2,4,none⟩ = some (.int .u64 sz):=(blk_cell BK2.out 4).trans rfl)
    | ((with_reducible refine gate_callee (f:=16) rfl ?_);refine goesL_ (some 22) rfl rfl Try.func16 (by kernel_rfl) rfl #[.agg #[.int .u64 nx,.slice A1 l1.length c1,.slice A2 l2.length c2,.bool false,.int .u64 sz]] rfl (by (try simp only [List.map_toArray,List.map_cons,List.map_nil]);first | done | rfl) ?_;(with_reducible refine (gather_own.calls nx _ _ l1 _ _ l2 false sz nx l1 l2 false sz _ (Kd.C_below HR1.out HB.out) HC1.out (Kd.C_below HR2.out HB.out) HC2.out HO.out).mono ?_);rintro e9 w10 ⟨v1,v2,rfl,ho1,ho2,hb⟩;refine ⟨_,rfl,?_⟩;have O1:=Aside0.mk (Kd.R_lower ho1 HB.out.size);have O2:=Aside0.mk (Kd.R_lower ho2 HB.out.size);have n0_:=Aside0.mk (below_step HB.out hb);have n1_:=Aside0.mk (blk_below BK2.out hb);have n2_:=Aside0.mk (blk_below BK4.out hb);clear HB BK2 BK4 hx0 hx1 hx2 hx3 hx4;have HB:=n0_;have BK2:=n1_;have BK4:=n2_;clear hb n0_ n1_ n2_ ho1 ho2;obtain ⟨Ao,co,eo⟩:=Kd.R_slice O1.out;subst eo;obtain ⟨Ap,cp,ep⟩:=Kd.R_slice O2.out;subst ep;have hx0 : w10.cell? ⟨gb2,0,none⟩ = some (.int .u64 nx):=(blk_cell BK2.out 0).trans rfl;have hx1 : w10.cell? ⟨gb2,1,none⟩ = some (.slice A1 l1.length c1):=(blk_cell BK2.out 1).trans rfl;have hx2 : w10.cell? ⟨gb2,2,none⟩ = some (.slice A2 l2.length c2):=(blk_cell BK2.out 2).trans rfl;have hx3 : w10.cell? ⟨gb2,3,none⟩ = some (.bool false):=(blk_cell BK2.out 3).trans rfl;have hx4 : w10.cell? ⟨gb2,4,none⟩ = some (.int .u64 sz):=(blk_cell BK2.out 4).trans rfl;have hf0:=blk_frozen BK2.out 0;have hf1:=blk_frozen BK2.out 1;have hf2:=blk_frozen BK2.out 2;have hf3:=blk_frozen BK2.out 3;have hf4:=blk_frozen BK2.out 4;have hy0 : w10.cell? ⟨gb4,0,none⟩ = some (.int .u64 0):=(blk_cell BK4.out 0).trans rfl;have hy1 : w10.cell? ⟨gb4,1,none⟩ = some (.slice none 0 0):=(blk_cell BK4.out 1).trans rfl;have hy2 : w10.cell? ⟨gb4,2,none⟩ = some (.slice none 0 0):=(blk_cell BK4.out 2).trans rfl;have hy3 : w10.cell? ⟨gb4,3,none⟩ = some (.bool false):=(blk_cell BK4.out 3).trans rfl;have hy4 : w10.cell? ⟨gb4,4,none⟩ = some (.int .u64 0):=(blk_cell BK4.out 4).trans rfl;have hg0:=blk_frozen BK4.out 0;have hg1:=blk_frozen BK4.out 1;have hg2:=blk_frozen BK4.out 2;have hg3:=blk_frozen BK4.out 3;have hg4:=blk_frozen BK4.out 4))
   clear hx0 hx1 hx2 hx3 hx4 hf0 hf1 hf2 hf3 hf4 hy0 hy1 hy2 hy3 hy4 hg0 hg1 hg2 hg3 hg4
   have n1_ : Aside0 ((((((w10.setCell ⟨gb2,0,none⟩ (.int .u64 nx)).setCell ⟨gb2,1,none⟩ (.slice Ao l1.length co)).setCell ⟨gb2,2,none⟩ (.slice Ap l2.length cp)).setCell ⟨gb2,3,none⟩ (.bool false)).setCell ⟨gb2,4,none⟩ (.int .u64 sz)).heap[gb2]? = some (.cells #[.int .u64 nx,.slice Ao l1.length co,.slice Ap l2.length cp,.bool false,.int .u64 sz] 28 (0,0))):=⟨blk_put (blk_put (blk_put (blk_put (blk_put (BK2.out) 0 (.int .u64 nx) (cs':=#[.int .u64 nx,.slice A1 l1.length c1,.slice A2 l2.length c2,.bool false,.int .u64 sz]) rfl) 1 (.slice Ao l1.length co) (cs':=#[.int .u64 nx,.slice Ao l1.length co,.slice A2 l2.length c2,.bool false,.int .u64 sz]) rfl) 2 (.slice Ap l2.length cp) (cs':=#[.int .u64 nx,.slice Ao l1.length co,.slice Ap l2.length cp,.bool false,.int .u64 sz]) rfl) 3 (.bool false) (cs':=#[.int .u64 nx,.slice Ao l1.length co,.slice Ap l2.length cp,.bool false,.int .u64 sz]) rfl) 4 (.int .u64 sz) (cs':=#[.int .u64 nx,.slice Ao l1.length co,.slice Ap l2.length cp,.bool false,.int .u64 sz]) rfl⟩
   have n2_ : Aside0 ((((((w10.setCell ⟨gb2,0,none⟩ (.int .u64 nx)).setCell ⟨gb2,1,none⟩ (.slice Ao l1.length co)).setCell ⟨gb2,2,none⟩ (.slice Ap l2.length cp)).setCell ⟨gb2,3,none⟩ (.bool false)).setCell ⟨gb2,4,none⟩ (.int .u64 sz)).heap[gb4]? = some (.cells #[.int .u64 0,.slice none 0 0,.slice none 0 0,.bool false,.int .u64 0] 28 (0,0))):=⟨blk_far (p:=⟨gb2,4,none⟩) (blk_far (p:=⟨gb2,3,none⟩) (blk_far (p:=⟨gb2,2,none⟩) (blk_far (p:=⟨gb2,1,none⟩) (blk_far (p:=⟨gb2,0,none⟩) (BK4.out) NB42 (.int .u64 nx)) NB42 (.slice Ao l1.length co)) NB42 (.slice Ap l2.length cp)) NB42 (.bool false)) NB42 (.int .u64 sz)⟩
   have n3_ : Aside0 (Kd.R k41 41 (((((w10.setCell ⟨gb2,0,none⟩ (.int .u64 nx)).setCell ⟨gb2,1,none⟩ (.slice Ao l1.length co)).setCell ⟨gb2,2,none⟩ (.slice Ap l2.length cp)).setCell ⟨gb2,3,none⟩ (.bool false)).setCell ⟨gb2,4,none⟩ (.int .u64 sz)) w.heap.size (fun _ => True) (.slice Ao l1.length co) l1):=⟨Kd.R_mono (Kd.R_far (p:=⟨gb2,4,none⟩) (Kd.R_far (p:=⟨gb2,3,none⟩) (Kd.R_far (p:=⟨gb2,2,none⟩) (Kd.R_far (p:=⟨gb2,1,none⟩) (Kd.R_far (p:=⟨gb2,0,none⟩) (Kd.R_types O1.out BK2.out ne_spz) (fun _ hk => hk.2) (.int .u64 nx)) (fun _ hk => hk.2) (.slice Ao l1.length co)) (fun _ hk => hk.2) (.slice Ap l2.length cp)) (fun _ hk => hk.2) (.bool false)) (fun _ hk => hk.2) (.int .u64 sz)) (fun _ hk => hk.1)⟩
   have n4_ : Aside0 (Kd.R (Kd.int .u8) 5 (((((w10.setCell ⟨gb2,0,none⟩ (.int .u64 nx)).setCell ⟨gb2,1,none⟩ (.slice Ao l1.length co)).setCell ⟨gb2,2,none⟩ (.slice Ap l2.length cp)).setCell ⟨gb2,3,none⟩ (.bool false)).setCell ⟨gb2,4,none⟩ (.int .u64 sz)) w.heap.size (fun _ => True) (.slice Ap l2.length cp) l2):=⟨Kd.R_mono (Kd.R_far (p:=⟨gb2,4,none⟩) (Kd.R_far (p:=⟨gb2,3,none⟩) (Kd.R_far (p:=⟨gb2,2,none⟩) (Kd.R_far (p:=⟨gb2,1,none⟩) (Kd.R_far (p:=⟨gb2,0,none⟩) (Kd.R_types O2.out BK2.out ne_byz) (fun _ hk => hk.2) (.int .u64 nx)) (fun _ hk => hk.2) (.slice Ao l1.length co)) (fun _ hk => hk.2) (.slice Ap l2.length cp)) (fun _ hk => hk.2) (.bool false)) (fun _ hk => hk.2) (.int .u64 sz)) (fun _ hk => hk.1)⟩
   have n5_ : Aside0 (Below w.heap.size w (((((w10.setCell ⟨gb2,0,none⟩ (.int .u64 nx)).setCell ⟨gb2,1,none⟩ (.slice Ao l1.length co)).setCell ⟨gb2,2,none⟩ (.slice Ap l2.length cp)).setCell ⟨gb2,3,none⟩ (.bool false)).setCell ⟨gb2,4,none⟩ (.int .u64 sz))):=⟨below_set (below_set (below_set (below_set (below_set (HB.out) GE2.out (j:=0) (v:=.int .u64 nx)) GE2.out (j:=1) (v:=.slice Ao l1.length co)) GE2.out (j:=2) (v:=.slice Ap l2.length cp)) GE2.out (j:=3) (v:=.bool false)) GE2.out (j:=4) (v:=.int .u64 sz)⟩
   clear BK2 BK4 O1 O2 HB
   have BK2:=n1_
   have BK4:=n2_
   have O1:=n3_
   have O2:=n4_
   have HB:=n5_
   clear n1_ n2_ n3_ n4_ n5_
   generalize (((((w10.setCell ⟨gb2,0,none⟩ (.int .u64 nx)).setCell ⟨gb2,1,none⟩ (.slice Ao l1.length co)).setCell ⟨gb2,2,none⟩ (.slice Ap l2.length cp)).setCell ⟨gb2,3,none⟩ (.bool false)).setCell ⟨gb2,4,none⟩ (.int .u64 sz)) = w11 at BK2 BK4 O1 O2 HB ⊢
   have hx_gb2_0 : w11.cell? ⟨gb2,0,none⟩ = some (.int .u64 nx):=(blk_cell BK2.out 0).trans rfl
   have hf_gb2_0:=blk_frozen BK2.out 0
   have hx_gb2_1 : w11.cell? ⟨gb2,1,none⟩ = some (.slice Ao l1.length co):=(blk_cell BK2.out 1).trans rfl
   have hf_gb2_1:=blk_frozen BK2.out 1
   have hx_gb2_2 : w11.cell? ⟨gb2,2,none⟩ = some (.slice Ap l2.length cp):=(blk_cell BK2.out 2).trans rfl
   have hf_gb2_2:=blk_frozen BK2.out 2
   have hx_gb2_3 : w11.cell? ⟨gb2,3,none⟩ = some (.bool false):=(blk_cell BK2.out 3).trans rfl
   have hf_gb2_3:=blk_frozen BK2.out 3
   have hx_gb2_4 : w11.cell? ⟨gb2,4,none⟩ = some (.int .u64 sz):=(blk_cell BK2.out 4).trans rfl
   have hf_gb2_4:=blk_frozen BK2.out 4
   go_upto_region 5 with fail
   clear hx_gb2_0 hf_gb2_0 hx_gb2_1 hf_gb2_1 hx_gb2_2 hf_gb2_2 hx_gb2_3 hf_gb2_3 hx_gb2_4 hf_gb2_4
   have n6_ : Aside0 (((w11.setCell ⟨gb2,3,none⟩ (.bool true)).setCell ⟨gb2,4,none⟩ (.int .u64 e)).heap[gb2]? = some (.cells #[.int .u64 nx,.slice Ao l1.length co,.slice Ap l2.length cp,.bool true,.int .u64 e] 28 (0,0))):=⟨blk_put (blk_put (BK2.out) 3 (.bool true) (cs':=#[.int .u64 nx,.slice Ao l1.length co,.slice Ap l2.length cp,.bool true,.int .u64 sz]) rfl) 4 (.int .u64 e) (cs':=#[.int .u64 nx,.slice Ao l1.length co,.slice Ap l2.length cp,.bool true,.int .u64 e]) rfl⟩
   have n7_ : Aside0 (((w11.setCell ⟨gb2,3,none⟩ (.bool true)).setCell ⟨gb2,4,none⟩ (.int .u64 e)).heap[gb4]? = some (.cells #[.int .u64 0,.slice none 0 0,.slice none 0 0,.bool false,.int .u64 0] 28 (0,0))):=⟨blk_far (p:=⟨gb2,4,none⟩) (blk_far (p:=⟨gb2,3,none⟩) (BK4.out) NB42 (.bool true)) NB42 (.int .u64 e)⟩
   have n8_ : Aside0 (Kd.R k41 41 ((w11.setCell ⟨gb2,3,none⟩ (.bool true)).setCell ⟨gb2,4,none⟩ (.int .u64 e)) w.heap.size (fun _ => True) (.slice Ao l1.length co) l1):=⟨Kd.R_mono (Kd.R_far (p:=⟨gb2,4,none⟩) (Kd.R_far (p:=⟨gb2,3,none⟩) (Kd.R_types O1.out BK2.out ne_spz) (fun _ hk => hk.2) (.bool true)) (fun _ hk => hk.2) (.int .u64 e)) (fun _ hk => hk.1)⟩
   have n9_ : Aside0 (Kd.R (Kd.int .u8) 5 ((w11.setCell ⟨gb2,3,none⟩ (.bool true)).setCell ⟨gb2,4,none⟩ (.int .u64 e)) w.heap.size (fun _ => True) (.slice Ap l2.length cp) l2):=⟨Kd.R_mono (Kd.R_far (p:=⟨gb2,4,none⟩) (Kd.R_far (p:=⟨gb2,3,none⟩) (Kd.R_types O2.out BK2.out ne_byz) (fun _ hk => hk.2) (.bool true)) (fun _ hk => hk.2) (.int .u64 e)) (fun _ hk => hk.1)⟩
   have n10_ : Aside0 (Below w.heap.size w ((w11.setCell ⟨gb2,3,none⟩ (.bool true)).setCell ⟨gb2,4,none⟩ (.int .u64 e))):=⟨below_set (below_set (HB.out) GE2.out (j:=3) (v:=.bool true)) GE2.out (j:=4) (v:=.int .u64 e)⟩
   clear BK2 BK4 O1 O2 HB
   have BK2:=n6_
   have BK4:=n7_
   have O1:=n8_
   have O2:=n9_
   have HB:=n10_
   clear n6_ n7_ n8_ n9_ n10_
   generalize ((w11.setCell ⟨gb2,3,none⟩ (.bool true)).setCell ⟨gb2,4,none⟩ (.int .u64 e)) = w12 at BK2 BK4 O1 O2 HB ⊢
   have hx_gb2_0 : w12.cell? ⟨gb2,0,none⟩ = some (.int .u64 nx):=(blk_cell BK2.out 0).trans rfl
   have hf_gb2_0:=blk_frozen BK2.out 0
   have hx_gb2_1 : w12.cell? ⟨gb2,1,none⟩ = some (.slice Ao l1.length co):=(blk_cell BK2.out 1).trans rfl
   have hf_gb2_1:=blk_frozen BK2.out 1
   have hx_gb2_2 : w12.cell? ⟨gb2,2,none⟩ = some (.slice Ap l2.length cp):=(blk_cell BK2.out 2).trans rfl
   have hf_gb2_2:=blk_frozen BK2.out 2
   have hx_gb2_3 : w12.cell? ⟨gb2,3,none⟩ = some (.bool true):=(blk_cell BK2.out 3).trans rfl
   have hf_gb2_3:=blk_frozen BK2.out 3
   have hx_gb2_4 : w12.cell? ⟨gb2,4,none⟩ = some (.int .u64 e):=(blk_cell BK2.out 4).trans rfl
   have hf_gb2_4:=blk_frozen BK2.out 4
   have hx_gb4_0 : w12.cell? ⟨gb4,0,none⟩ = some (.int .u64 0):=(blk_cell BK4.out 0).trans rfl
   have hf_gb4_0:=blk_frozen BK4.out 0
   have hx_gb4_1 : w12.cell? ⟨gb4,1,none⟩ = some (.slice none 0 0):=(blk_cell BK4.out 1).trans rfl
   have hf_gb4_1:=blk_frozen BK4.out 1
   have hx_gb4_2 : w12.cell? ⟨gb4,2,none⟩ = some (.slice none 0 0):=(blk_cell BK4.out 2).trans rfl
   have hf_gb4_2:=blk_frozen BK4.out 2
   have hx_gb4_3 : w12.cell? ⟨gb4,3,none⟩ = some (.bool false):=(blk_cell BK4.out 3).trans rfl
   have hf_gb4_3:=blk_frozen BK4.out 3
   have hx_gb4_4 : w12.cell? ⟨gb4,4,none⟩ = some (.int .u64 0):=(blk_cell BK4.out 4).trans rfl
   have hf_gb4_4:=blk_frozen BK4.out 4
   go_wp2
   refine bodyPost_ret (results_ct rfl _ _ gb4 28 #[.int .u64 nx,.slice Ao l1.length co,.slice Ap l2.length cp,.bool true,.int .u64 e] (0,0) _ rfl (blk_put5z BK4.out) Try.underlying28 rfl (by kernel_rfl)) rfl ?_
   exact ⟨_,_,rfl,R_set5z O1.out BK4.out ne_spz,R_set5z O2.out BK4.out ne_byz,below_set5z HB.out GE4.out⟩
  | true =>
   subst hb0
   have hn2:=hn rfl
   clear hn
   go_enter Try.func13,Try.ntmps13
   go_upto_region 4 with (first
    | ((with_reducible refine gate_dst (N:=2) rfl ?_);refine box_event ?hg (N:=2) ?hd (cs:=#[.int .u64 nx,.slice A1 l1.length c1,.slice A2 l2.length c2,.bool true,.int .u64 sz]) (t:=28) ?hr ?_;(case hd => rfl);(case hg => rfl);(case hr => first | (go_simp;done) | (go_simp;rfl));intro gb2 hg w3 hbox hb;have n0_:=Aside0.mk (below_step HB.out hb);have GE2:=Aside0.mk (show w.heap.size ≤ gb2 by rw [hg];exact HB.out.size);clear HB;have HB:=n0_;have BK2:=Aside0.mk hbox;clear hbox hb hg n0_)
    | ((with_reducible refine gate_dst (N:=4) rfl ?_);refine box_event ?hg (N:=4) ?hd (cs:=#[.int .u64 0,.slice none 0 0,.slice none 0 0,.bool false,.int .u64 0]) (t:=28) ?hr ?_;(case hd => rfl);(case hg => rfl);(case hr => first | (go_simp;done) | (go_simp;rfl));intro gb4 hg w4 hbox hb;have n0_:=Aside0.mk (below_step HB.out hb);have GE4:=Aside0.mk (show w.heap.size ≤ gb4 by rw [hg];exact HB.out.size);have NB24 : gb2 ≠ gb4:=(by rw [hg];exact Nat.ne_of_lt (blk_lt BK2.out));have NB42:=NB24.symm;have n1_:=Aside0.mk (blk_below BK2.out hb);clear HB BK2;have HB:=n0_;have BK2:=n1_;have BK4:=Aside0.mk hbox;clear hbox hb hg n0_ n1_;have hx0 : w4.cell? ⟨gb2,0,none⟩ = some (.int .u64 nx):=(blk_cell BK2.out 0).trans rfl;have hx1 : w4.cell? ⟨gb2,1,none⟩ = some (.slice A1 l1.length c1):=(blk_cell BK2.out 1).trans rfl;have hx2 : w4.cell? ⟨gb2,2,none⟩ = some (.slice A2 l2.length c2):=(blk_cell BK2.out 2).trans rfl;have hx3 : w4.cell? ⟨gb2,3,none⟩ = some (.bool true):=(blk_cell BK2.out 3).trans rfl;have hx4 : w4.cell? ⟨gb2,4,none⟩ = some (.int .u64 sz):=(blk_cell BK2.out 4).trans rfl)
    | (go_at_call 12;(with_reducible refine (gather_High.calls nx _ _ l1 _ _ l2 true sz hi _ (Kd.C_below HR1.out HB.out) HC1.out (Kd.C_below HR2.out HB.out) HC2.out HH.out).mono ?_);rintro e9 w9 ⟨rfl,hb⟩;have n0_:=Aside0.mk (below_step HB.out hb);have n1_:=Aside0.mk (blk_below BK2.out hb);have n2_:=Aside0.mk (blk_below BK4.out hb);clear HB BK2 BK4 hx0 hx1 hx2 hx3 hx4;have HB:=n0_;have BK2:=n1_;have BK4:=n2_;clear hb n0_ n1_ n2_;have hx0 : w9.cell? ⟨gb2,0,none⟩ = some (.int .u64 nx):=(blk_cell BK2.out 0).trans rfl;have hx1 : w9.cell? ⟨gb2,1,none⟩ = some (.slice A1 l1.length c1):=(blk_cell BK2.out 1).trans rfl;have hx2 : w9.cell? ⟨gb2,2,none⟩ = some (.slice A2 l2.length c2):=(blk_cell BK2.out 2).trans rfl;have hx3 : w9.cell? ⟨gb2,3,none⟩ = some (.bool true):=(blk_cell BK2.out 3).trans rfl;have hx4 : w9.cell? ⟨gb2,4,none⟩ = some (.int .u64 sz):=(blk_cell BK2.out 4).trans rfl)
    | ((with_reducible refine gate_callee (f:=16) rfl ?_);refine goesL_ (some 22) rfl rfl Try.func16 (by kernel_rfl) rfl #[.agg #[.int .u64 nx,.slice A1 l1.length c1,.slice A2 l2.length c2,.bool true,.int .u64 sz]] rfl (by (try simp only [List.map_toArray,List.map_cons,List.map_nil]);first | done | rfl) ?_;(with_reducible refine (gather_own.calls nx _ _ l1 _ _ l2 true sz nx l1 l2 true sz _ (Kd.C_below HR1.out HB.out) HC1.out (Kd.C_below HR2.out HB.out) HC2.out HO.out).mono ?_);rintro e9 w10 ⟨v1,v2,rfl,ho1,ho2,hb⟩;refine ⟨_,rfl,?_⟩;have O1:=Aside0.mk (Kd.R_lower ho1 HB.out.size);have O2:=Aside0.mk (Kd.R_lower ho2 HB.out.size);have n0_:=Aside0.mk (below_step HB.out hb);have n1_:=Aside0.mk (blk_below BK2.out hb);have n2_:=Aside0.mk (blk_below BK4.out hb);clear HB BK2 BK4 hx0 hx1 hx2 hx3 hx4;have HB:=n0_;have BK2:=n1_;have BK4:=n2_;clear hb n0_ n1_ n2_ ho1 ho2;obtain ⟨Ao,co,eo⟩:=Kd.R_slice O1.out;subst eo;obtain ⟨Ap,cp,ep⟩:=Kd.R_slice O2.out;subst ep;have hx0 : w10.cell? ⟨gb2,0,none⟩ = some (.int .u64 nx):=(blk_cell BK2.out 0).trans rfl;have hx1 : w10.cell? ⟨gb2,1,none⟩ = some (.slice A1 l1.length c1):=(blk_cell BK2.out 1).trans rfl;have hx2 : w10.cell? ⟨gb2,2,none⟩ = some (.slice A2 l2.length c2):=(blk_cell BK2.out 2).trans rfl;have hx3 : w10.cell? ⟨gb2,3,none⟩ = some (.bool true):=(blk_cell BK2.out 3).trans rfl;have hx4 : w10.cell? ⟨gb2,4,none⟩ = some (.int .u64 sz):=(blk_cell BK2.out 4).trans rfl;have hf0:=blk_frozen BK2.out 0;have hf1:=blk_frozen BK2.out 1;have hf2:=blk_frozen BK2.out 2;have hf3:=blk_frozen BK2.out 3;have hf4:=blk_frozen BK2.out 4;have hy0 : w10.cell? ⟨gb4,0,none⟩ = some (.int .u64 0):=(blk_cell BK4.out 0).trans rfl;have hy1 : w10.cell? ⟨gb4,1,none⟩ = some (.slice none 0 0):=(blk_cell BK4.out 1).trans rfl;have hy2 : w10.cell? ⟨gb4,2,none⟩ = some (.slice none 0 0):=(blk_cell BK4.out 2).trans rfl;have hy3 : w10.cell? ⟨gb4,3,none⟩ = some (.bool false):=(blk_cell BK4.out 3).trans rfl;have hy4 : w10.cell? ⟨gb4,4,none⟩ = some (.int .u64 0):=(blk_cell BK4.out 4).trans rfl;have hg0:=blk_frozen BK4.out 0;have hg1:=blk_frozen BK4.out 1;have hg2:=blk_frozen BK4.out 2;have hg3:=blk_frozen BK4.out 3;have hg4:=blk_frozen BK4.out 4))
   clear hx0 hx1 hx2 hx3 hx4 hf0 hf1 hf2 hf3 hf4 hy0 hy1 hy2 hy3 hy4 hg0 hg1 hg2 hg3 hg4
   have n1_ : Aside0 ((((((w10.setCell ⟨gb2,0,none⟩ (.int .u64 nx)).setCell ⟨gb2,1,none⟩ (.slice Ao l1.length co)).setCell ⟨gb2,2,none⟩ (.slice Ap l2.length cp)).setCell ⟨gb2,3,none⟩ (.bool true)).setCell ⟨gb2,4,none⟩ (.int .u64 sz)).heap[gb2]? = some (.cells #[.int .u64 nx,.slice Ao l1.length co,.slice Ap l2.length cp,.bool true,.int .u64 sz] 28 (0,0))):=⟨blk_put (blk_put (blk_put (blk_put (blk_put (BK2.out) 0 (.int .u64 nx) (cs':=#[.int .u64 nx,.slice A1 l1.length c1,.slice A2 l2.length c2,.bool true,.int .u64 sz]) rfl) 1 (.slice Ao l1.length co) (cs':=#[.int .u64 nx,.slice Ao l1.length co,.slice A2 l2.length c2,.bool true,.int .u64 sz]) rfl) 2 (.slice Ap l2.length cp) (cs':=#[.int .u64 nx,.slice Ao l1.length co,.slice Ap l2.length cp,.bool true,.int .u64 sz]) rfl) 3 (.bool true) (cs':=#[.int .u64 nx,.slice Ao l1.length co,.slice Ap l2.length cp,.bool true,.int .u64 sz]) rfl) 4 (.int .u64 sz) (cs':=#[.int .u64 nx,.slice Ao l1.length co,.slice Ap l2.length cp,.bool true,.int .u64 sz]) rfl⟩
   have n2_ : Aside0 ((((((w10.setCell ⟨gb2,0,none⟩ (.int .u64 nx)).setCell ⟨gb2,1,none⟩ (.slice Ao l1.length co)).setCell ⟨gb2,2,none⟩ (.slice Ap l2.length cp)).setCell ⟨gb2,3,none⟩ (.bool true)).setCell ⟨gb2,4,none⟩ (.int .u64 sz)).heap[gb4]? = some (.cells #[.int .u64 0,.slice none 0 0,.slice none 0 0,.bool false,.int .u64 0] 28 (0,0))):=⟨blk_far (p:=⟨gb2,4,none⟩) (blk_far (p:=⟨gb2,3,none⟩) (blk_far (p:=⟨gb2,2,none⟩) (blk_far (p:=⟨gb2,1,none⟩) (blk_far (p:=⟨gb2,0,none⟩) (BK4.out) NB42 (.int .u64 nx)) NB42 (.slice Ao l1.length co)) NB42 (.slice Ap l2.length cp)) NB42 (.bool true)) NB42 (.int .u64 sz)⟩
   have n3_ : Aside0 (Kd.R k41 41 (((((w10.setCell ⟨gb2,0,none⟩ (.int .u64 nx)).setCell ⟨gb2,1,none⟩ (.slice Ao l1.length co)).setCell ⟨gb2,2,none⟩ (.slice Ap l2.length cp)).setCell ⟨gb2,3,none⟩ (.bool true)).setCell ⟨gb2,4,none⟩ (.int .u64 sz)) w.heap.size (fun _ => True) (.slice Ao l1.length co) l1):=⟨Kd.R_mono (Kd.R_far (p:=⟨gb2,4,none⟩) (Kd.R_far (p:=⟨gb2,3,none⟩) (Kd.R_far (p:=⟨gb2,2,none⟩) (Kd.R_far (p:=⟨gb2,1,none⟩) (Kd.R_far (p:=⟨gb2,0,none⟩) (Kd.R_types O1.out BK2.out ne_spz) (fun _ hk => hk.2) (.int .u64 nx)) (fun _ hk => hk.2) (.slice Ao l1.length co)) (fun _ hk => hk.2) (.slice Ap l2.length cp)) (fun _ hk => hk.2) (.bool true)) (fun _ hk => hk.2) (.int .u64 sz)) (fun _ hk => hk.1)⟩
   have n4_ : Aside0 (Kd.R (Kd.int .u8) 5 (((((w10.setCell ⟨gb2,0,none⟩ (.int .u64 nx)).setCell ⟨gb2,1,none⟩ (.slice Ao l1.length co)).setCell ⟨gb2,2,none⟩ (.slice Ap l2.length cp)).setCell ⟨gb2,3,none⟩ (.bool true)).setCell ⟨gb2,4,none⟩ (.int .u64 sz)) w.heap.size (fun _ => True) (.slice Ap l2.length cp) l2):=⟨Kd.R_mono (Kd.R_far (p:=⟨gb2,4,none⟩) (Kd.R_far (p:=⟨gb2,3,none⟩) (Kd.R_far (p:=⟨gb2,2,none⟩) (Kd.R_far (p:=⟨gb2,1,none⟩) (Kd.R_far (p:=⟨gb2,0,none⟩) (Kd.R_types O2.out BK2.out ne_byz) (fun _ hk => hk.2) (.int .u64 nx)) (fun _ hk => hk.2) (.slice Ao l1.length co)) (fun _ hk => hk.2) (.slice Ap l2.length cp)) (fun _ hk => hk.2) (.bool true)) (fun _ hk => hk.2) (.int .u64 sz)) (fun _ hk => hk.1)⟩
   have n5_ : Aside0 (Below w.heap.size w (((((w10.setCell ⟨gb2,0,none⟩ (.int .u64 nx)).setCell ⟨gb2,1,none⟩ (.slice Ao l1.length co)).setCell ⟨gb2,2,none⟩ (.slice Ap l2.length cp)).setCell ⟨gb2,3,none⟩ (.bool true)).setCell ⟨gb2,4,none⟩ (.int .u64 sz))):=⟨below_set (below_set (below_set (below_set (below_set (HB.out) GE2.out (j:=0) (v:=.int .u64 nx)) GE2.out (j:=1) (v:=.slice Ao l1.length co)) GE2.out (j:=2) (v:=.slice Ap l2.length cp)) GE2.out (j:=3) (v:=.bool true)) GE2.out (j:=4) (v:=.int .u64 sz)⟩
   clear BK2 BK4 O1 O2 HB
   have BK2:=n1_
   have BK4:=n2_
   have O1:=n3_
   have O2:=n4_
   have HB:=n5_
   clear n1_ n2_ n3_ n4_ n5_
   generalize (((((w10.setCell ⟨gb2,0,none⟩ (.int .u64 nx)).setCell ⟨gb2,1,none⟩ (.slice Ao l1.length co)).setCell ⟨gb2,2,none⟩ (.slice Ap l2.length cp)).setCell ⟨gb2,3,none⟩ (.bool true)).setCell ⟨gb2,4,none⟩ (.int .u64 sz)) = w11 at BK2 BK4 O1 O2 HB ⊢
   have hx_gb2_0 : w11.cell? ⟨gb2,0,none⟩ = some (.int .u64 nx):=(blk_cell BK2.out 0).trans rfl
   have hf_gb2_0:=blk_frozen BK2.out 0
   have hx_gb2_1 : w11.cell? ⟨gb2,1,none⟩ = some (.slice Ao l1.length co):=(blk_cell BK2.out 1).trans rfl
   have hf_gb2_1:=blk_frozen BK2.out 1
   have hx_gb2_2 : w11.cell? ⟨gb2,2,none⟩ = some (.slice Ap l2.length cp):=(blk_cell BK2.out 2).trans rfl
   have hf_gb2_2:=blk_frozen BK2.out 2
   have hx_gb2_3 : w11.cell? ⟨gb2,3,none⟩ = some (.bool true):=(blk_cell BK2.out 3).trans rfl
   have hf_gb2_3:=blk_frozen BK2.out 3
   have hx_gb2_4 : w11.cell? ⟨gb2,4,none⟩ = some (.int .u64 sz):=(blk_cell BK2.out 4).trans rfl
   have hf_gb2_4:=blk_frozen BK2.out 4
   go_upto_region 5 with fail
   clear hx_gb2_0 hf_gb2_0 hx_gb2_1 hf_gb2_1 hx_gb2_2 hf_gb2_2 hx_gb2_3 hf_gb2_3 hx_gb2_4 hf_gb2_4
   have n6_ : Aside0 (((w11.setCell ⟨gb2,3,none⟩ (.bool true)).setCell ⟨gb2,4,none⟩ (.int .u64 e)).heap[gb2]? = some (.cells #[.int .u64 nx,.slice Ao l1.length co,.slice Ap l2.length cp,.bool true,.int .u64 e] 28 (0,0))):=⟨blk_put (blk_put (BK2.out) 3 (.bool true) (cs':=#[.int .u64 nx,.slice Ao l1.length co,.slice Ap l2.length cp,.bool true,.int .u64 sz]) rfl) 4 (.int .u64 e) (cs':=#[.int .u64 nx,.slice Ao l1.length co,.slice Ap l2.length cp,.bool true,.int .u64 e]) rfl⟩
   have n7_ : Aside0 (((w11.setCell ⟨gb2,3,none⟩ (.bool true)).setCell ⟨gb2,4,none⟩ (.int .u64 e)).heap[gb4]? = some (.cells #[.int .u64 0,.slice none 0 0,.slice none 0 0,.bool false,.int .u64 0] 28 (0,0))):=⟨blk_far (p:=⟨gb2,4,none⟩) (blk_far (p:=⟨gb2,3,none⟩) (BK4.out) NB42 (.bool true)) NB42 (.int .u64 e)⟩
   have n8_ : Aside0 (Kd.R k41 41 ((w11.setCell ⟨gb2,3,none⟩ (.bool true)).setCell ⟨gb2,4,none⟩ (.int .u64 e)) w.heap.size (fun _ => True) (.slice Ao l1.length co) l1):=⟨Kd.R_mono (Kd.R_far (p:=⟨gb2,4,none⟩) (Kd.R_far (p:=⟨gb2,3,none⟩) (Kd.R_types O1.out BK2.out ne_spz) (fun _ hk => hk.2) (.bool true)) (fun _ hk => hk.2) (.int .u64 e)) (fun _ hk => hk.1)⟩
   have n9_ : Aside0 (Kd.R (Kd.int .u8) 5 ((w11.setCell ⟨gb2,3,none⟩ (.bool true)).setCell ⟨gb2,4,none⟩ (.int .u64 e)) w.heap.size (fun _ => True) (.slice Ap l2.length cp) l2):=⟨Kd.R_mono (Kd.R_far (p:=⟨gb2,4,none⟩) (Kd.R_far (p:=⟨gb2,3,none⟩) (Kd.R_types O2.out BK2.out ne_byz) (fun _ hk => hk.2) (.bool true)) (fun _ hk => hk.2) (.int .u64 e)) (fun _ hk => hk.1)⟩
   have n10_ : Aside0 (Below w.heap.size w ((w11.setCell ⟨gb2,3,none⟩ (.bool true)).setCell ⟨gb2,4,none⟩ (.int .u64 e))):=⟨below_set (below_set (HB.out) GE2.out (j:=3) (v:=.bool true)) GE2.out (j:=4) (v:=.int .u64 e)⟩
   clear BK2 BK4 O1 O2 HB
   have BK2:=n6_
   have BK4:=n7_
   have O1:=n8_
   have O2:=n9_
   have HB:=n10_
   clear n6_ n7_ n8_ n9_ n10_
   generalize ((w11.setCell ⟨gb2,3,none⟩ (.bool true)).setCell ⟨gb2,4,none⟩ (.int .u64 e)) = w12 at BK2 BK4 O1 O2 HB ⊢
   have hx_gb2_0 : w12.cell? ⟨gb2,0,none⟩ = some (.int .u64 nx):=(blk_cell BK2.out 0).trans rfl
   have hf_gb2_0:=blk_frozen BK2.out 0
   have hx_gb2_1 : w12.cell? ⟨gb2,1,none⟩ = some (.slice Ao l1.length co):=(blk_cell BK2.out 1).trans rfl
   have hf_gb2_1:=blk_frozen BK2.out 1
   have hx_gb2_2 : w12.cell? ⟨gb2,2,none⟩ = some (.slice Ap l2.length cp):=(blk_cell BK2.out 2).trans rfl
   have hf_gb2_2:=blk_frozen BK2.out 2
   have hx_gb2_3 : w12.cell? ⟨gb2,3,none⟩ = some (.bool true):=(blk_cell BK2.out 3).trans rfl
   have hf_gb2_3:=blk_frozen BK2.out 3
   have hx_gb2_4 : w12.cell? ⟨gb2,4,none⟩ = some (.int .u64 e):=(blk_cell BK2.out 4).trans rfl
   have hf_gb2_4:=blk_frozen BK2.out 4
   have hx_gb4_0 : w12.cell? ⟨gb4,0,none⟩ = some (.int .u64 0):=(blk_cell BK4.out 0).trans rfl
   have hf_gb4_0:=blk_frozen BK4.out 0
   have hx_gb4_1 : w12.cell? ⟨gb4,1,none⟩ = some (.slice none 0 0):=(blk_cell BK4.out 1).trans rfl
   have hf_gb4_1:=blk_frozen BK4.out 1
   have hx_gb4_2 : w12.cell? ⟨gb4,2,none⟩ = some (.slice none 0 0):=(blk_cell BK4.out 2).trans rfl
   have hf_gb4_2:=blk_frozen BK4.out 2
   have hx_gb4_3 : w12.cell? ⟨gb4,3,none⟩ = some (.bool false):=(blk_cell BK4.out 3).trans rfl
   have hf_gb4_3:=blk_frozen BK4.out 3
   have hx_gb4_4 : w12.cell? ⟨gb4,4,none⟩ = some (.int .u64 0):=(blk_cell BK4.out 4).trans rfl
   have hf_gb4_4:=blk_frozen BK4.out 4
   go_wp2
   refine bodyPost_ret (results_ct rfl _ _ gb4 28 #[.int .u64 nx,.slice Ao l1.length co,.slice Ap l2.length cp,.bool true,.int .u64 e] (0,0) _ rfl (blk_put5z BK4.out) Try.underlying28 rfl (by kernel_rfl)) rfl ?_
   exact ⟨_,_,rfl,R_set5z O1.out BK4.out ne_spz,R_set5z O2.out BK4.out ne_byz,below_set5z HB.out GE4.out⟩
 exact step en rfl
def gather_Size.j0 : Nat → Int → Bool → Int → List (S41) → List Int → Bool → Int → Option (Int × (List (S41)) × List Int × Bool × Int × Int)
 | 0,_,_,_,_,_,_,_ => none
 | k + 1,x1,x19,x124000,x124001,x124002,x124003,x124004 => if x19 = true then (some (x124000,x124001,x124002,x124003,x124004,6)) else ((gather_own.f x124000 x124001 x124002 x124003 x124004).bind fun bt127 => (some (bt127.1,bt127.2.1,bt127.2.2.1,true,x1,0)))
def gather_Size.g (k : Nat) (a0_0 : Int) (l0_1 : List (S41)) (l0_2 : List Int) (a0_3 : Bool) (a0_4 : Int) (a1 : Int) : Option (Int × (List (S41)) × List Int × Bool × Int × Int):=if a0_3 = true then (if a0_4 = a1 then ((gather_High.f a0_0 l0_1 l0_2 a0_3 a0_4).bind fun t125 => (gather_Size.j0 k a1 (decide (a1 < t125)) a0_0 l0_1 l0_2 a0_3 a0_4)) else (gather_Size.j0 k a1 true a0_0 l0_1 l0_2 a0_3 a0_4)) else ((gather_High.f a0_0 l0_1 l0_2 a0_3 a0_4).bind fun t126 => (gather_Size.j0 k a1 (decide (a1 < t126)) a0_0 l0_1 l0_2 a0_3 a0_4))
theorem gather_Size.mono_g : ∀ k,(∀ y0 y1 y2 y3 y4 y5 y6,LeO (gather_Size.j0 k y0 y1 y2 y3 y4 y5 y6) (gather_Size.j0 (k + 1) y0 y1 y2 y3 y4 y5 y6))
 | 0 => fun _ _ _ _ _ _ _ r h => by simp [gather_Size.j0] at h
 | k + 1 => by
  have ih0:=gather_Size.mono_g k
  ·intro y0 y1 y2 y3 y4 y5 y6
   unfold gather_Size.j0
   repeat' first
   | (with_reducible exact ih0 _ _ _ _ _ _ _)
   | (with_reducible exact LeO.refl _)
   | (with_reducible exact LeO.none _)
   | (with_reducible refine LeO.ite ?_ ?_)
   | (with_reducible refine LeO.bind ?_ (fun _ => ?_))
   | exact ih0 _ _ _ _ _ _ _
   | exact LeO.none _
   | refine LeO.ite ?_ ?_
   | refine LeO.bind ?_ (fun _ => ?_)
theorem gather_Size.mono_h : ∀ a0 a1 a2 a3 a4 a5 k,LeO (gather_Size.g k a0 a1 a2 a3 a4 a5) (gather_Size.g (k + 1) a0 a1 a2 a3 a4 a5):=by
 intro a0 a1 a2 a3 a4 a5 k
 have ih0:=gather_Size.mono_g k
 unfold gather_Size.g
 repeat' first
   | (with_reducible exact ih0 _ _ _ _ _ _ _)
   | (with_reducible exact LeO.refl _)
   | (with_reducible exact LeO.none _)
   | (with_reducible refine LeO.ite ?_ ?_)
   | (with_reducible refine LeO.bind ?_ (fun _ => ?_))
   | exact ih0 _ _ _ _ _ _ _
   | exact LeO.none _
   | refine LeO.ite ?_ ?_
   | refine LeO.bind ?_ (fun _ => ?_)
set_option maxHeartbeats 8000000 in
set_option maxRecDepth 100000 in
theorem b_of {α : Type} {d : Kd α} {e : Nat} {W : World} {base : Nat} {v : Value} {xs : List α} {A : Nat → Prop} (h : d.R e W base (fun _ => True) v xs) : d.R e W base (fun k_ => A k_ ∨ base ≤ k_) v xs :=
 Kd.R_mono (Kd.R_bound h) (fun k hk => .inr hk.2.1)
theorem gather_Size.calls6 (k : Nat) (a0_0 : Int) (P0_1_ : Nat → Prop) (A0_1 : Option Addr) (c0_1 : Nat) (l0_1 : List (S41)) (P0_2_ : Nat → Prop) (A0_2 : Option Addr) (c0_2 : Nat) (l0_2 : List Int) (a0_3 : Bool) (a0_4 : Int) (a1 : Int) (r1 : Int) (r2 : List (S41)) (r3 : List Int) (r4 : Bool) (r5 : Int) (r6 : Int) (w : World) (hz6 : ¬ r6 = 0) (hs0_1 : Kd.V k41 41 w w.heap.size (fun k_ => P0_1_ k_) (.slice A0_1 l0_1.length c0_1) l0_1) (hs0_2 : Kd.V (Kd.int .u8) 5 w w.heap.size (fun k_ => P0_2_ k_) (.slice A0_2 l0_2.length c0_2) l0_2) (h : gather_Size.g k a0_0 l0_1 l0_2 a0_3 a0_4 a1 = some (r1,r2,r3,r4,r5,r6)) :
  Calls Try.prog 13 #[.agg #[.int .u64 a0_0,.slice A0_1 l0_1.length c0_1,.slice A0_2 l0_2.length c0_2,.bool a0_3,.int .u64 a0_4],.int .u64 a1] w fun e w' => ∃ v1_ v2_ : Value,e = .returned (.tuple #[.agg #[.int .u64 r1,v1_,v2_,.bool r4,.int .u64 r5],.int .i64 r6]) ∧ Kd.V k41 41 w' w.heap.size (fun k_ => ((P0_1_ k_ ∨ P0_2_ k_) ∨ w.heap.size ≤ k_)) v1_ r2 ∧ Kd.V (Kd.int .u8) 5 w' w.heap.size (fun k_ => ((P0_1_ k_ ∨ P0_2_ k_) ∨ w.heap.size ≤ k_)) v2_ r3 ∧ Below w.heap.size w w':=by
 have hu28:=Try.underlying28
 have HO0_1:=Aside0.mk (show Kd.V k41 41 w w.heap.size (fun k_ => ((P0_1_ k_ ∨ P0_2_ k_) ∨ w.heap.size ≤ k_)) (.slice A0_1 l0_1.length c0_1) l0_1 from Kd.V_mono hs0_1 (fun k_ hk => .inl (.inl hk)))
 have HO0_2:=Aside0.mk (show Kd.V (Kd.int .u8) 5 w w.heap.size (fun k_ => ((P0_1_ k_ ∨ P0_2_ k_) ∨ w.heap.size ≤ k_)) (.slice A0_2 l0_2.length c0_2) l0_2 from Kd.V_mono hs0_2 (fun k_ hk => .inl (.inr hk)))
 have HB:=Aside0.mk (Below.refl w.heap.size w)
 have H : (if a0_3 = true then (if a0_4 = a1 then ((gather_High.f a0_0 l0_1 l0_2 a0_3 a0_4).bind fun t125 => (gather_Size.j0 k a1 (decide (a1 < t125)) a0_0 l0_1 l0_2 a0_3 a0_4)) else (gather_Size.j0 k a1 true a0_0 l0_1 l0_2 a0_3 a0_4)) else ((gather_High.f a0_0 l0_1 l0_2 a0_3 a0_4).bind fun t126 => (gather_Size.j0 k a1 (decide (a1 < t126)) a0_0 l0_1 l0_2 a0_3 a0_4))) = some (r1,r2,r3,r4,r5,r6):=h
 clear h
 have HC3:=Aside0.mk H
 clear H
 go_enter Try.func13,Try.ntmps13
 go_upto_region 1 with (first | ((with_reducible refine gate_dst (N:=2) rfl ?_);refine box_event ?hg (N:=2) ?hd (cs:=#[.int .u64 a0_0,.slice A0_1 l0_1.length c0_1,.slice A0_2 l0_2.length c0_2,.bool a0_3,.int .u64 a0_4]) (t:=28) ?hr ?_;(case hd => rfl);(case hg => rfl);(case hr => first | (go_simp;done) | (go_simp;rfl));intro gb123 hg w4 hbox hb;have n0_:=Aside0.mk (Kd.V_below (Kd.V_elderB (by (with_reducible repeat (first | apply Kd.V_alloc | apply Kd.V_drewN | apply Kd.V_drew));exact HO0_1.out) gb123 (Nat.le_of_eq hg.symm)) hb);have n1_:=Aside0.mk (Kd.V_below (Kd.V_elderB (by (with_reducible repeat (first | apply Kd.V_alloc | apply Kd.V_drewN | apply Kd.V_drew));exact HO0_2.out) gb123 (Nat.le_of_eq hg.symm)) hb);have n2_:=Aside0.mk (below_step (by repeat (first | (with_reducible first | exact HB.out | apply below_alloc | apply pw_below_drewN | apply below_drew1) | exact HB.out)) hb);have n3_:=Aside0.mk (hbox);have n4_:=Aside0.mk ((by rw [hg];exact (below_size (by repeat (first | (with_reducible first | exact HB.out | apply below_alloc | apply pw_below_drewN | apply below_drew1) | exact HB.out))) : w.heap.size ≤ gb123));have n5_:=Aside0.mk ((by rw [hg];exact (below_size (by repeat (first | (with_reducible first | exact HB.out | apply below_alloc | apply pw_below_drewN | apply below_drew1) | exact HB.out))) : w.heap.size ≤ gb123));clear HO0_1;clear HO0_2;clear HB;have HO0_1:=n0_;have HO0_2:=n1_;have HB:=n2_;have BK123:=n3_;have GW123:=n4_;have GE123:=n5_;clear n0_ n1_ n2_ n3_ n4_ n5_;clear hb hbox hg) | ((with_reducible refine gate_dst (N:=4) rfl ?_);refine box_event ?hg (N:=4) ?hd (cs:=#[.int .u64 0,.slice none 0 0,.slice none 0 0,.bool false,.int .u64 0]) (t:=28) ?hr ?_;(case hd => rfl);(case hg => rfl);(case hr => first | (go_simp;done) | (go_simp;rfl));intro gb124 hg w5 hbox hb;have n0_:=Aside0.mk (Kd.V_below (Kd.V_elderB (by (with_reducible repeat (first | apply Kd.V_alloc | apply Kd.V_drewN | apply Kd.V_drew));exact HO0_1.out) gb124 (Nat.le_of_eq hg.symm)) hb);have n1_:=Aside0.mk (Kd.V_below (Kd.V_elderB (by (with_reducible repeat (first | apply Kd.V_alloc | apply Kd.V_drewN | apply Kd.V_drew));exact HO0_2.out) gb124 (Nat.le_of_eq hg.symm)) hb);have n2_:=Aside0.mk (blk_below (g:=gb123) (o:=.cells #[.int .u64 a0_0,.slice A0_1 l0_1.length c0_1,.slice A0_2 l0_2.length c0_2,.bool a0_3,.int .u64 a0_4] 28 (0,0)) (by (with_reducible repeat (first | refine blk_drewN ?_ _ | refine blk_drew ?_ | refine blk_alloc ?_ _));exact BK123.out) hb);have n3_:=Aside0.mk (below_step (by repeat (first | (with_reducible first | exact HB.out | apply below_alloc | apply pw_below_drewN | apply below_drew1 | refine below_set ?_ GE123.out) | exact HB.out)) hb);have n4_:=Aside0.mk (hbox);have n5_:=Aside0.mk ((by rw [hg];exact (below_size (by repeat (first | (with_reducible first | exact HB.out | apply below_alloc | apply pw_below_drewN | apply below_drew1 | refine below_set ?_ GE123.out) | exact HB.out))) : w.heap.size ≤ gb124));have n6_:=Aside0.mk ((by rw [hg];exact (below_size (by repeat (first | (with_reducible first | exact HB.out | apply below_alloc | apply pw_below_drewN | apply below_drew1 | refine below_set ?_ GE123.out) | exact HB.out))) : w.heap.size ≤ gb124));have n7_:=Aside0.mk ((by rw [hg];exact Nat.ne_of_lt (blk_lt (g:=gb123) (o:=.cells #[.int .u64 a0_0,.slice A0_1 l0_1.length c0_1,.slice A0_2 l0_2.length c0_2,.bool a0_3,.int .u64 a0_4] 28 (0,0)) (by (with_reducible repeat (first | refine blk_drewN ?_ _ | refine blk_drew ?_ | refine blk_alloc ?_ _));exact BK123.out)) : gb123 ≠ gb124));have n8_:=Aside0.mk ((by rw [hg];exact Nat.ne_of_gt (blk_lt (g:=gb123) (o:=.cells #[.int .u64 a0_0,.slice A0_1 l0_1.length c0_1,.slice A0_2 l0_2.length c0_2,.bool a0_3,.int .u64 a0_4] 28 (0,0)) (by (with_reducible repeat (first | refine blk_drewN ?_ _ | refine blk_drew ?_ | refine blk_alloc ?_ _));exact BK123.out)) : gb124 ≠ gb123));clear HO0_1;clear HO0_2;clear BK123;clear HB;have HO0_1:=n0_;have HO0_2:=n1_;have BK123:=n2_;have HB:=n3_;have BK124:=n4_;have GW124:=n5_;have GE124:=n6_;have NB123_124:=n7_;have NB124_123:=n8_;clear n0_ n1_ n2_ n3_ n4_ n5_ n6_ n7_ n8_;clear hb hbox hg))
 (try simp only [Act.put,List.setIfInBounds_toArray,List.set_cons_zero,List.set_cons_succ])
 go_cut [19] (fun v19 wc => ∃ (kq : Nat) (x19_2 : Bool),v19 = .bool x19_2 ∧ Aside0 (gather_Size.j0 kq a1 x19_2 a0_0 l0_1 l0_2 a0_3 a0_4 = some (r1,r2,r3,r4,r5,r6)) ∧ Aside0 (kq ≤ k) ∧ Aside0 (Kd.V k41 41 wc w.heap.size (fun k_ => ((P0_1_ k_ ∨ P0_2_ k_) ∨ w.heap.size ≤ k_) ∧ k_ ≠ gb123 ∧ k_ ≠ gb124) (.slice A0_1 l0_1.length c0_1) l0_1) ∧ Aside0 (Kd.V (Kd.int .u8) 5 wc w.heap.size (fun k_ => ((P0_1_ k_ ∨ P0_2_ k_) ∨ w.heap.size ≤ k_) ∧ k_ ≠ gb123 ∧ k_ ≠ gb124) (.slice A0_2 l0_2.length c0_2) l0_2) ∧ Aside0 (wc.heap[gb123]? = some (.cells #[.int .u64 a0_0,(.slice A0_1 l0_1.length c0_1),(.slice A0_2 l0_2.length c0_2),.bool a0_3,.int .u64 a0_4] 28 (0,0))) ∧ Aside0 (wc.heap[gb124]? = some (.cells #[.int .u64 0,(.slice none 0 0),(.slice none 0 0),.bool false,.int .u64 0] 28 (0,0))) ∧ Aside0 (Below w.heap.size w wc))
 case first =>
  have H:=HC3.out
  clear HC3
  by_cases c6 : a0_3 = true
  ·subst c6
   have H1 : (if a0_4 = a1 then ((gather_High.f a0_0 l0_1 l0_2 true a0_4).bind fun t125 => (gather_Size.j0 k a1 (decide (a1 < t125)) a0_0 l0_1 l0_2 true a0_4)) else (gather_Size.j0 k a1 true a0_0 l0_1 l0_2 true a0_4)) = some (r1,r2,r3,r4,r5,r6):=by rw [if_pos rfl] at H;exact H
   clear H
   have H:=H1
   clear H1
   by_cases c7 : a0_4 = a1
   ·rw [if_pos c7] at H
    have c7b0 : (a0_4 == a1) = true:=beq_iff_eq.mpr c7
    have c7b1 : (a0_4 != a1) = false:=bne_eq_false_iff_eq.mpr c7
    clear c7
    (first | rw [c7b0] | (simp only [i64_w,i32_w];rw [c7b0]) | skip)
    replace H:=Option.bind_eq_some_iff.mp H
    obtain ⟨t125,A80,H⟩:=H
    replace H : (gather_Size.j0 k a1 (decide (a1 < t125)) a0_0 l0_1 l0_2 true a0_4) = some (r1,r2,r3,r4,r5,r6):=H
    have A8:=Aside0.mk A80
    clear A80
    have H':=Aside0.mk H
    clear H
    have hnb9:=NB123_124.out
    have hnc9:=NB124_123.out
    have hcz10_0 : w5.cell? ⟨gb123,0,none⟩ = some (.int .u64 a0_0):=(blk_cell BK123.out 0).trans rfl
    have hcz10_1 : w5.cell? ⟨gb123,1,none⟩ = some (.slice A0_1 l0_1.length c0_1):=(blk_cell BK123.out 1).trans rfl
    have hcz10_2 : w5.cell? ⟨gb123,2,none⟩ = some (.slice A0_2 l0_2.length c0_2):=(blk_cell BK123.out 2).trans rfl
    have hcz10_3 : w5.cell? ⟨gb123,3,none⟩ = some (.bool true):=(blk_cell BK123.out 3).trans rfl
    have hcz10_4 : w5.cell? ⟨gb123,4,none⟩ = some (.int .u64 a0_4):=(blk_cell BK123.out 4).trans rfl
    have hfz10_0:=blk_frozen BK123.out 0
    have hfz10_1:=blk_frozen BK123.out 1
    have hfz10_2:=blk_frozen BK123.out 2
    have hfz10_3:=blk_frozen BK123.out 3
    have hfz10_4:=blk_frozen BK123.out 4
    go_wp2_with (first | (go_at_call 12;(with_reducible refine (gather_High.calls a0_0 _ _ l0_1 _ _ l0_2 true a0_4 t125 _ ?side1 ?side2 ?side3 ?side4 A8.out).mono ?_);(case side1 => repeat (first | exact (Kd.V_reads' HO0_1.out).2.2 | (with_reducible refine Kd.C_alloc ?_ _) | (with_reducible refine Kd.C_drewN ?_ _) | (with_reducible refine Kd.C_drew ?_)));(case side2 => exact (Kd.V_reads' HO0_1.out).2.1);(case side3 => repeat (first | exact (Kd.V_reads' HO0_2.out).2.2 | (with_reducible refine Kd.C_alloc ?_ _) | (with_reducible refine Kd.C_drewN ?_ _) | (with_reducible refine Kd.C_drew ?_)));(case side4 => exact (Kd.V_reads' HO0_2.out).2.1);rintro e w11 ⟨rfl,hb⟩;have n0_:=Aside0.mk (Kd.V_below (by (with_reducible repeat (first | apply Kd.V_alloc | apply Kd.V_drewN | apply Kd.V_drew));exact HO0_1.out) hb);have n1_:=Aside0.mk (Kd.V_below (by (with_reducible repeat (first | apply Kd.V_alloc | apply Kd.V_drewN | apply Kd.V_drew));exact HO0_2.out) hb);have n2_:=Aside0.mk (blk_below (g:=gb123) (o:=.cells #[.int .u64 a0_0,.slice A0_1 l0_1.length c0_1,.slice A0_2 l0_2.length c0_2,.bool true,.int .u64 a0_4] 28 (0,0)) (by (with_reducible repeat (first | refine blk_drewN ?_ _ | refine blk_drew ?_ | refine blk_alloc ?_ _));exact BK123.out) hb);have n3_:=Aside0.mk (blk_below (g:=gb124) (o:=.cells #[.int .u64 0,.slice none 0 0,.slice none 0 0,.bool false,.int .u64 0] 28 (0,0)) (by (with_reducible repeat (first | refine blk_drewN ?_ _ | refine blk_drew ?_ | refine blk_alloc ?_ _));exact BK124.out) hb);have n4_:=Aside0.mk (below_step (by repeat (first | (with_reducible first | exact HB.out | apply below_alloc | apply pw_below_drewN | apply below_drew1 | refine below_set ?_ GE123.out | refine below_set ?_ GE124.out) | exact HB.out)) hb);clear HO0_1;clear HO0_2;clear BK123;clear BK124;clear HB;have HO0_1:=n0_;have HO0_2:=n1_;have BK123:=n2_;have BK124:=n3_;have HB:=n4_;clear n0_ n1_ n2_ n3_ n4_;(try clear hb);(try clear hb2);(try clear hk);(try clear hi)))
    go_meet
    case rel => exact ⟨_,(decide (a1 < t125)),(by first | rfl | (simp;done) | (simp [*];done)),H',⟨by first | omega | exact Nat.le_refl _⟩,⟨by (with_reducible repeat (first | apply Kd.V_alloc | apply Kd.V_drewN | apply Kd.V_drew));exact Kd.V_mono HO0_1.out (fun _ hk => ⟨hk.1.1,⟨hk.1.2,hk.2⟩⟩)⟩,⟨by (with_reducible repeat (first | apply Kd.V_alloc | apply Kd.V_drewN | apply Kd.V_drew));exact Kd.V_mono HO0_2.out (fun _ hk => ⟨hk.1.1,⟨hk.1.2,hk.2⟩⟩)⟩,⟨by (with_reducible repeat (first | refine blk_drewN ?_ _ | refine blk_drew ?_ | refine blk_alloc ?_ _));exact BK123.out⟩,⟨by (with_reducible repeat (first | refine blk_drewN ?_ _ | refine blk_drew ?_ | refine blk_alloc ?_ _));exact BK124.out⟩,⟨by repeat (first | (with_reducible first | exact HB.out | apply below_alloc | apply pw_below_drewN | apply below_drew1 | refine below_set ?_ GE123.out | refine below_set ?_ GE124.out) | exact HB.out)⟩⟩
   ·rw [if_neg c7] at H
    have c7b0 : (a0_4 == a1) = false:=beq_eq_false_iff_ne.mpr c7
    have c7b1 : (a0_4 != a1) = true:=bne_iff_ne.mpr c7
    (first | rw [c7b0] | (simp only [i64_w,i32_w];rw [c7b0]) | skip)
    have H':=Aside0.mk H
    clear H
    have hnb12:=NB123_124.out
    have hnc12:=NB124_123.out
    have hcz13_0 : w5.cell? ⟨gb123,0,none⟩ = some (.int .u64 a0_0):=(blk_cell BK123.out 0).trans rfl
    have hcz13_1 : w5.cell? ⟨gb123,1,none⟩ = some (.slice A0_1 l0_1.length c0_1):=(blk_cell BK123.out 1).trans rfl
    have hcz13_2 : w5.cell? ⟨gb123,2,none⟩ = some (.slice A0_2 l0_2.length c0_2):=(blk_cell BK123.out 2).trans rfl
    have hcz13_3 : w5.cell? ⟨gb123,3,none⟩ = some (.bool true):=(blk_cell BK123.out 3).trans rfl
    have hcz13_4 : w5.cell? ⟨gb123,4,none⟩ = some (.int .u64 a0_4):=(blk_cell BK123.out 4).trans rfl
    have hfz13_0:=blk_frozen BK123.out 0
    have hfz13_1:=blk_frozen BK123.out 1
    have hfz13_2:=blk_frozen BK123.out 2
    have hfz13_3:=blk_frozen BK123.out 3
    have hfz13_4:=blk_frozen BK123.out 4
    go_wp2
    go_meet
    case rel => exact ⟨_,(true),(by first | rfl | (simp;done) | (simp [*];done)),H',⟨by first | omega | exact Nat.le_refl _⟩,⟨by (with_reducible repeat (first | apply Kd.V_alloc | apply Kd.V_drewN | apply Kd.V_drew));exact Kd.V_mono HO0_1.out (fun _ hk => ⟨hk.1.1,⟨hk.1.2,hk.2⟩⟩)⟩,⟨by (with_reducible repeat (first | apply Kd.V_alloc | apply Kd.V_drewN | apply Kd.V_drew));exact Kd.V_mono HO0_2.out (fun _ hk => ⟨hk.1.1,⟨hk.1.2,hk.2⟩⟩)⟩,⟨by (with_reducible repeat (first | refine blk_drewN ?_ _ | refine blk_drew ?_ | refine blk_alloc ?_ _));exact BK123.out⟩,⟨by (with_reducible repeat (first | refine blk_drewN ?_ _ | refine blk_drew ?_ | refine blk_alloc ?_ _));exact BK124.out⟩,⟨by repeat (first | (with_reducible first | exact HB.out | apply below_alloc | apply pw_below_drewN | apply below_drew1 | refine below_set ?_ GE123.out | refine below_set ?_ GE124.out) | exact HB.out)⟩⟩
  ·replace c6:=Bool.eq_false_iff.mpr c6
   subst c6
   have H1 : ((gather_High.f a0_0 l0_1 l0_2 false a0_4).bind fun t126 => (gather_Size.j0 k a1 (decide (a1 < t126)) a0_0 l0_1 l0_2 false a0_4)) = some (r1,r2,r3,r4,r5,r6):=by rw [if_neg (show ¬ (false = true) by decide)] at H;exact H
   clear H
   have H:=H1
   clear H1
   replace H:=Option.bind_eq_some_iff.mp H
   obtain ⟨t126,A140,H⟩:=H
   replace H : (gather_Size.j0 k a1 (decide (a1 < t126)) a0_0 l0_1 l0_2 false a0_4) = some (r1,r2,r3,r4,r5,r6):=H
   have A14:=Aside0.mk A140
   clear A140
   have H':=Aside0.mk H
   clear H
   have hnb15:=NB123_124.out
   have hnc15:=NB124_123.out
   have hcz16_0 : w5.cell? ⟨gb123,0,none⟩ = some (.int .u64 a0_0):=(blk_cell BK123.out 0).trans rfl
   have hcz16_1 : w5.cell? ⟨gb123,1,none⟩ = some (.slice A0_1 l0_1.length c0_1):=(blk_cell BK123.out 1).trans rfl
   have hcz16_2 : w5.cell? ⟨gb123,2,none⟩ = some (.slice A0_2 l0_2.length c0_2):=(blk_cell BK123.out 2).trans rfl
   have hcz16_3 : w5.cell? ⟨gb123,3,none⟩ = some (.bool false):=(blk_cell BK123.out 3).trans rfl
   have hcz16_4 : w5.cell? ⟨gb123,4,none⟩ = some (.int .u64 a0_4):=(blk_cell BK123.out 4).trans rfl
   have hfz16_0:=blk_frozen BK123.out 0
   have hfz16_1:=blk_frozen BK123.out 1
   have hfz16_2:=blk_frozen BK123.out 2
   have hfz16_3:=blk_frozen BK123.out 3
   have hfz16_4:=blk_frozen BK123.out 4
   go_wp2_with (first | (go_at_call 12;(with_reducible refine (gather_High.calls a0_0 _ _ l0_1 _ _ l0_2 false a0_4 t126 _ ?side1 ?side2 ?side3 ?side4 A14.out).mono ?_);(case side1 => repeat (first | exact (Kd.V_reads' HO0_1.out).2.2 | (with_reducible refine Kd.C_alloc ?_ _) | (with_reducible refine Kd.C_drewN ?_ _) | (with_reducible refine Kd.C_drew ?_)));(case side2 => exact (Kd.V_reads' HO0_1.out).2.1);(case side3 => repeat (first | exact (Kd.V_reads' HO0_2.out).2.2 | (with_reducible refine Kd.C_alloc ?_ _) | (with_reducible refine Kd.C_drewN ?_ _) | (with_reducible refine Kd.C_drew ?_)));(case side4 => exact (Kd.V_reads' HO0_2.out).2.1);rintro e w17 ⟨rfl,hb⟩;have n0_:=Aside0.mk (Kd.V_below (by (with_reducible repeat (first | apply Kd.V_alloc | apply Kd.V_drewN | apply Kd.V_drew));exact HO0_1.out) hb);have n1_:=Aside0.mk (Kd.V_below (by (with_reducible repeat (first | apply Kd.V_alloc | apply Kd.V_drewN | apply Kd.V_drew));exact HO0_2.out) hb);have n2_:=Aside0.mk (blk_below (g:=gb123) (o:=.cells #[.int .u64 a0_0,.slice A0_1 l0_1.length c0_1,.slice A0_2 l0_2.length c0_2,.bool false,.int .u64 a0_4] 28 (0,0)) (by (with_reducible repeat (first | refine blk_drewN ?_ _ | refine blk_drew ?_ | refine blk_alloc ?_ _));exact BK123.out) hb);have n3_:=Aside0.mk (blk_below (g:=gb124) (o:=.cells #[.int .u64 0,.slice none 0 0,.slice none 0 0,.bool false,.int .u64 0] 28 (0,0)) (by (with_reducible repeat (first | refine blk_drewN ?_ _ | refine blk_drew ?_ | refine blk_alloc ?_ _));exact BK124.out) hb);have n4_:=Aside0.mk (below_step (by repeat (first | (with_reducible first | exact HB.out | apply below_alloc | apply pw_below_drewN | apply below_drew1 | refine below_set ?_ GE123.out | refine below_set ?_ GE124.out) | exact HB.out)) hb);clear HO0_1;clear HO0_2;clear BK123;clear BK124;clear HB;have HO0_1:=n0_;have HO0_2:=n1_;have BK123:=n2_;have BK124:=n3_;have HB:=n4_;clear n0_ n1_ n2_ n3_ n4_;(try clear hb);(try clear hb2);(try clear hk);(try clear hi)))
   go_meet
   case rel => exact ⟨_,(decide (a1 < t126)),(by first | rfl | (simp;done) | (simp [*];done)),H',⟨by first | omega | exact Nat.le_refl _⟩,⟨by (with_reducible repeat (first | apply Kd.V_alloc | apply Kd.V_drewN | apply Kd.V_drew));exact Kd.V_mono HO0_1.out (fun _ hk => ⟨hk.1.1,⟨hk.1.2,hk.2⟩⟩)⟩,⟨by (with_reducible repeat (first | apply Kd.V_alloc | apply Kd.V_drewN | apply Kd.V_drew));exact Kd.V_mono HO0_2.out (fun _ hk => ⟨hk.1.1,⟨hk.1.2,hk.2⟩⟩)⟩,⟨by (with_reducible repeat (first | refine blk_drewN ?_ _ | refine blk_drew ?_ | refine blk_alloc ?_ _));exact BK123.out⟩,⟨by (with_reducible repeat (first | refine blk_drewN ?_ _ | refine blk_drew ?_ | refine blk_alloc ?_ _));exact BK124.out⟩,⟨by repeat (first | (with_reducible first | exact HB.out | apply below_alloc | apply pw_below_drewN | apply below_drew1 | refine below_set ?_ GE123.out | refine below_set ?_ GE124.out) | exact HB.out)⟩⟩
 case rest =>
  clear HC3
  try clear c1
  try clear p2
  try clear c6
  try clear c7
  try clear c7b0
  try clear c7b1
  try clear c9
  try clear c12
  try clear c13
  try clear c15
  try clear hcz10_0
  try clear hcz10_1
  try clear hcz10_2
  try clear hcz10_3
  try clear hcz10_4
  try clear hcz13_0
  try clear hcz13_1
  try clear hcz13_2
  try clear hcz13_3
  try clear hcz13_4
  try clear hcz16_0
  try clear hcz16_1
  try clear hcz16_2
  try clear hcz16_3
  try clear hcz16_4
  try clear hfz10_0
  try clear hfz10_1
  try clear hfz10_2
  try clear hfz10_3
  try clear hfz10_4
  try clear hfz13_0
  try clear hfz13_1
  try clear hfz13_2
  try clear hfz13_3
  try clear hfz13_4
  try clear hfz16_0
  try clear hfz16_1
  try clear hfz16_2
  try clear hfz16_3
  try clear hfz16_4
  obtain ⟨kq,x19_2,rfl,HA,HJ2,HO_124001,HO_124002,BK123,BK124,HB⟩:=hcut
  cases kq with
  | zero => exact absurd HA.out (by simp [gather_Size.j0])
  | succ kj2 =>
   have H:=HA.out
   clear HA
   simp only [gather_Size.j0] at H
   by_cases c18 : x19_2 = true
   ·subst c18
    have H1 : (some (a0_0,l0_1,l0_2,a0_3,a0_4,6)) = some (r1,r2,r3,r4,r5,r6):=by rw [if_pos rfl] at H;exact H
    clear H
    have H:=H1
    clear H1
    simp only [Option.some.injEq,Prod.mk.injEq] at H
    obtain ⟨rfl,rfl,rfl,rfl,rfl,rfl⟩:=H
    have hnb19:=NB123_124.out
    have hnc19:=NB124_123.out
    have hcz20_0 : wc.cell? ⟨gb123,0,none⟩ = some (.int .u64 a0_0):=(blk_cell BK123.out 0).trans rfl
    have hcz20_1 : wc.cell? ⟨gb123,1,none⟩ = some (.slice A0_1 l0_1.length c0_1):=(blk_cell BK123.out 1).trans rfl
    have hcz20_2 : wc.cell? ⟨gb123,2,none⟩ = some (.slice A0_2 l0_2.length c0_2):=(blk_cell BK123.out 2).trans rfl
    have hcz20_3 : wc.cell? ⟨gb123,3,none⟩ = some (.bool a0_3):=(blk_cell BK123.out 3).trans rfl
    have hcz20_4 : wc.cell? ⟨gb123,4,none⟩ = some (.int .u64 a0_4):=(blk_cell BK123.out 4).trans rfl
    have hfz20_0:=blk_frozen BK123.out 0
    have hfz20_1:=blk_frozen BK123.out 1
    have hfz20_2:=blk_frozen BK123.out 2
    have hfz20_3:=blk_frozen BK123.out 3
    have hfz20_4:=blk_frozen BK123.out 4
    have hcz21_0 : wc.cell? ⟨gb124,0,none⟩ = some (.int .u64 0):=(blk_cell BK124.out 0).trans rfl
    have hcz21_1 : wc.cell? ⟨gb124,1,none⟩ = some (.slice none 0 0):=(blk_cell BK124.out 1).trans rfl
    have hcz21_2 : wc.cell? ⟨gb124,2,none⟩ = some (.slice none 0 0):=(blk_cell BK124.out 2).trans rfl
    have hcz21_3 : wc.cell? ⟨gb124,3,none⟩ = some (.bool false):=(blk_cell BK124.out 3).trans rfl
    have hcz21_4 : wc.cell? ⟨gb124,4,none⟩ = some (.int .u64 0):=(blk_cell BK124.out 4).trans rfl
    have hfz21_0:=blk_frozen BK124.out 0
    have hfz21_1:=blk_frozen BK124.out 1
    have hfz21_2:=blk_frozen BK124.out 2
    have hfz21_3:=blk_frozen BK124.out 3
    have hfz21_4:=blk_frozen BK124.out 4
    go_wp2
    refine bodyPost_ret (results_ct rfl _ _ gb124 28 #[.int .u64 a0_0,.slice A0_1 l0_1.length c0_1,.slice A0_2 l0_2.length c0_2,.bool a0_3,.int .u64 a0_4] (0,0) _ rfl (by (with_reducible repeat (first | refine blk_drewN ?_ _ | refine blk_drew ?_ | refine blk_alloc ?_ _));refine blk_put (cs:=#[.int .u64 a0_0,.slice A0_1 l0_1.length c0_1,.slice A0_2 l0_2.length c0_2,.bool a0_3,.int .u64 0]) ?_ 4 _ rfl;(with_reducible repeat (first | refine blk_drewN ?_ _ | refine blk_drew ?_ | refine blk_alloc ?_ _));refine blk_put (cs:=#[.int .u64 a0_0,.slice A0_1 l0_1.length c0_1,.slice A0_2 l0_2.length c0_2,.bool false,.int .u64 0]) ?_ 3 _ rfl;(with_reducible repeat (first | refine blk_drewN ?_ _ | refine blk_drew ?_ | refine blk_alloc ?_ _));refine blk_put (cs:=#[.int .u64 a0_0,.slice A0_1 l0_1.length c0_1,.slice none 0 0,.bool false,.int .u64 0]) ?_ 2 _ rfl;(with_reducible repeat (first | refine blk_drewN ?_ _ | refine blk_drew ?_ | refine blk_alloc ?_ _));refine blk_put (cs:=#[.int .u64 a0_0,.slice none 0 0,.slice none 0 0,.bool false,.int .u64 0]) ?_ 1 _ rfl;(with_reducible repeat (first | refine blk_drewN ?_ _ | refine blk_drew ?_ | refine blk_alloc ?_ _));refine blk_put (cs:=#[.int .u64 0,.slice none 0 0,.slice none 0 0,.bool false,.int .u64 0]) ?_ 0 _ rfl;(with_reducible repeat (first | refine blk_drewN ?_ _ | refine blk_drew ?_ | refine blk_alloc ?_ _));exact BK124.out) Try.underlying28 rfl (by kernel_rfl)) rfl ?_
    exact ⟨_,_,by first | rfl | (simp [errW_none,errW_some] <;> rfl) | (simp [*,errW_none,errW_some] <;> rfl),by (with_reducible repeat (first | apply Kd.V_alloc | apply Kd.V_drewN | apply Kd.V_drew));exact Kd.V_mono (Kd.V_far (p:=⟨gb124,4,none⟩) (Kd.V_far (p:=⟨gb124,3,none⟩) (Kd.V_far (p:=⟨gb124,2,none⟩) (Kd.V_far (p:=⟨gb124,1,none⟩) (Kd.V_far (p:=⟨gb124,0,none⟩) (Kd.V_mono HO_124001.out (fun k_ hk => (⟨hk,hk.2.2⟩ : _ ∧ k_ ≠ gb124))) (fun _ hk => hk.2) (.int .u64 a0_0)) (fun _ hk => hk.2) (.slice A0_1 l0_1.length c0_1)) (fun _ hk => hk.2) (.slice A0_2 l0_2.length c0_2)) (fun _ hk => hk.2) (.bool a0_3)) (fun _ hk => hk.2) (.int .u64 a0_4)) (fun _ hk => hk.1.1),by (with_reducible repeat (first | apply Kd.V_alloc | apply Kd.V_drewN | apply Kd.V_drew));exact Kd.V_mono (Kd.V_far (p:=⟨gb124,4,none⟩) (Kd.V_far (p:=⟨gb124,3,none⟩) (Kd.V_far (p:=⟨gb124,2,none⟩) (Kd.V_far (p:=⟨gb124,1,none⟩) (Kd.V_far (p:=⟨gb124,0,none⟩) (Kd.V_mono HO_124002.out (fun k_ hk => (⟨hk,hk.2.2⟩ : _ ∧ k_ ≠ gb124))) (fun _ hk => hk.2) (.int .u64 a0_0)) (fun _ hk => hk.2) (.slice A0_1 l0_1.length c0_1)) (fun _ hk => hk.2) (.slice A0_2 l0_2.length c0_2)) (fun _ hk => hk.2) (.bool a0_3)) (fun _ hk => hk.2) (.int .u64 a0_4)) (fun _ hk => hk.1.1),by repeat (first | (with_reducible first | exact HB.out | apply below_alloc | apply pw_below_drewN | apply below_drew1 | refine below_set ?_ GE123.out | refine below_set ?_ GE124.out) | exact HB.out)⟩
   ·replace c18:=Bool.eq_false_iff.mpr c18
    subst c18
    have H1 : ((gather_own.f a0_0 l0_1 l0_2 a0_3 a0_4).bind fun bt127 => (some (bt127.1,bt127.2.1,bt127.2.2.1,true,a1,0))) = some (r1,r2,r3,r4,r5,r6):=by rw [if_neg (show ¬ (false = true) by decide)] at H;exact H
    clear H
    have H:=H1
    clear H1
    replace H:=Option.bind_eq_some_iff.mp H
    obtain ⟨⟨t127,t128,t131,t134,t135⟩,A220,H⟩:=H
    replace H : (some (t127,t128,t131,true,a1,0)) = some (r1,r2,r3,r4,r5,r6):=H
    have A22:=Aside0.mk A220
    clear A220
    simp only [Option.some.injEq,Prod.mk.injEq] at H
    obtain ⟨rfl,rfl,rfl,rfl,rfl,rfl⟩:=H
    exact absurd rfl hz6
def gather_Size.f (k : Nat) (a0_0 : Int) (l0_1 : List S41) (l0_2 : List Int) (a0_3 : Bool) (a0_4 : Int) (a1 : Int) : Option (Int × (List S41) × List Int × Bool × Int × Int):=if l0_1.length < 1000000000 ∧ l0_2.length < 1000000000 then gather_Size.g k a0_0 l0_1 l0_2 a0_3 a0_4 a1 else none
theorem gather_Size.mono : ∀ a0 a1 a2 a3 a4 a5 k,LeO (gather_Size.f k a0 a1 a2 a3 a4 a5) (gather_Size.f (k + 1) a0 a1 a2 a3 a4 a5):=by
 intro a0 a1 a2 a3 a4 a5 k
 unfold gather_Size.f
 exact LeO.ite (gather_Size.mono_h _ _ _ _ _ _ _) (LeO.none _)
theorem gather_Size.zero {k : Nat} {n z a r1 r5 : Int} {l1 r2 : List S41} {l2 r3 : List Int} {e r4 : Bool} (h1 : l1.length < 1000000000) (h2 : l2.length < 1000000000) (h : gather_Size.g k n l1 l2 e z a = some (r1,r2,r3,r4,r5,0)) : ∃ hi,gather_High.f n l1 l2 e z = some hi ∧ (e = true → z = a) ∧ hi ≤ a ∧ r1 = n ∧ r2 = l1 ∧ r3 = l2 ∧ r4 = true ∧ r5 = a:=by
 have hj : ∀ (k : Nat) (b : Bool),gather_Size.j0 k a b n l1 l2 e z = some (r1,r2,r3,r4,r5,0) → b = false ∧ r1 = n ∧ r2 = l1 ∧ r3 = l2 ∧ r4 = true ∧ r5 = a:=by
  intro k b hb
  cases k with
  | zero => simp [gather_Size.j0] at hb
  | succ k =>
   cases b with
   | true =>
    have hb2 : some (n,l1,l2,e,z,(6 : Int)) = some (r1,r2,r3,r4,r5,0):=hb
    simp at hb2
   | false =>
    replace hb : ((gather_own.f n l1 l2 e z).bind fun bt => some (bt.1,bt.2.1,bt.2.2.1,true,a,(0 : Int))) = some (r1,r2,r3,r4,r5,0):=hb
    rw [own_okz h1 h2,Option.bind_some] at hb
    simp only [Option.some.injEq,Prod.mk.injEq] at hb
    obtain ⟨q1,q2,q3,q4,q5,_⟩:=hb
    exact ⟨rfl,q1.symm,q2.symm,q3.symm,q4.symm,q5.symm⟩
 unfold gather_Size.g at h
 by_cases c : e = true
 ·rw [if_pos c] at h
  by_cases c2 : z = a
  ·rw [if_pos c2] at h
   obtain ⟨hi,hh,h⟩:=Option.bind_eq_some_iff.mp h
   obtain ⟨q,qr⟩:=hj _ _ h
   have:=of_decide_eq_false q
   exact ⟨hi,hh,fun _ => c2,by omega,qr⟩
  ·rw [if_neg c2] at h
   have:=(hj _ _ h).1
   cases this
 ·rw [if_neg c] at h
  obtain ⟨hi,hh,h⟩:=Option.bind_eq_some_iff.mp h
  obtain ⟨q,qr⟩:=hj _ _ h
  have:=of_decide_eq_false q
  exact ⟨hi,hh,fun x => absurd x c,by omega,qr⟩
theorem gather_Size.calls (k : Nat) (a0_0 : Int) (P0_1_ : Nat → Prop) (A0_1 : Option Addr) (c0_1 : Nat) (l0_1 : List (S41)) (P0_2_ : Nat → Prop) (A0_2 : Option Addr) (c0_2 : Nat) (l0_2 : List Int) (a0_3 : Bool) (a0_4 : Int) (a1 : Int) (r1 : Int) (r2 : List (S41)) (r3 : List Int) (r4 : Bool) (r5 : Int) (r6 : Int) (w : World) (hs0_1 : Kd.V k41 41 w w.heap.size (fun k_ => P0_1_ k_) (.slice A0_1 l0_1.length c0_1) l0_1) (hs0_2 : Kd.V (Kd.int .u8) 5 w w.heap.size (fun k_ => P0_2_ k_) (.slice A0_2 l0_2.length c0_2) l0_2) (h : gather_Size.f k a0_0 l0_1 l0_2 a0_3 a0_4 a1 = some (r1,r2,r3,r4,r5,r6)) :
  Calls Try.prog 13 #[.agg #[.int .u64 a0_0,.slice A0_1 l0_1.length c0_1,.slice A0_2 l0_2.length c0_2,.bool a0_3,.int .u64 a0_4],.int .u64 a1] w fun e w' => ∃ v1_ v2_ : Value,e = .returned (.tuple #[.agg #[.int .u64 r1,v1_,v2_,.bool r4,.int .u64 r5],.int .i64 r6]) ∧ Kd.V k41 41 w' w.heap.size (fun k_ => ((P0_1_ k_ ∨ P0_2_ k_) ∨ w.heap.size ≤ k_)) v1_ r2 ∧ Kd.V (Kd.int .u8) 5 w' w.heap.size (fun k_ => ((P0_1_ k_ ∨ P0_2_ k_) ∨ w.heap.size ≤ k_)) v2_ r3 ∧ Below w.heap.size w w':=by
 unfold gather_Size.f at h
 by_cases g : l0_1.length < 1000000000 ∧ l0_2.length < 1000000000
 case neg => rw [if_neg g] at h;cases h
 rw [if_pos g] at h
 by_cases c : r6 = 0
 ·subst c
  obtain ⟨hi,hh,he,hl,rfl,rfl,rfl,rfl,rfl⟩:=gather_Size.zero g.1 g.2 h
  refine (gather_Size.okz _ _ _ _ _ _ _ _ _ _ hi w (Kd.V_reads' hs0_1).2.2 (Kd.V_reads' hs0_1).2.1 (Kd.V_reads' hs0_2).2.2 (Kd.V_reads' hs0_2).2.1 hh he hl g.1 g.2).mono ?_
  rintro e9 w' ⟨v1,v2,rfl,ho1,ho2,hb⟩
  exact ⟨v1,v2,rfl,Kd.R_V (b_of ho1),Kd.R_V (b_of ho2),hb⟩
 ·exact gather_Size.calls6 k a0_0 P0_1_ A0_1 c0_1 l0_1 P0_2_ A0_2 c0_2 l0_2 a0_3 a0_4 a1 r1 r2 r3 r4 r5 r6 w c hs0_1 hs0_2 h

end Go.Proofs.Ytndfddejdfnleaa.P
