-- Printed for this claim by xprint.py of this session: contracts of this session's own stand in for what the print does not take
import Derived.Test.YtndfddejdfnleaaPx0
import Derived.Test.YtndfddejdfnleaaPx2
import Derived.Test.YtndfddejdfnleaaPx3
import Derived.Test.YtndfddejdfnleaaPx5
import Derived.Test.YtndfddejdfnleaaPx6
import Derived.Test.YtndfddejdfnleaaPx7
namespace Go.Proofs.Ytndfddejdfnleaa.P
open Go.RowKit Go.Proofs.YtndfddejdfnleaaW.PrintWords Go.Proofs.YtndfddejdfnleaaW.PrintLast Go.Proofs.YtndfddejdfnleaaW.PrintMore
attribute [local go_sem] max2_int min2_int max_two min_two max_three min_three max_four min_four   -- for this text's walks alone
set_option linter.unusedVariables false
set_option linter.unusedSimpArgs false

/-! ### gather_Put: function 10 -/
section
variable {α : Type} {d : Kd α} {e t base g k : Nat} {ok : Nat → Prop} {w W : World} {v x0 x1 x2 x3 x4 a0 a1 a2 a3 a4 : Value} {xs : List α} {cs : Array Value}
/-- A variable of five cells,written whole. -/
def set5 (W : World) (g : Nat) (a0 a1 a2 a3 a4 : Value) : World:=((((W.setCell ⟨g,0,none⟩ a0).setCell ⟨g,1,none⟩ a1).setCell ⟨g,2,none⟩ a2).setCell ⟨g,3,none⟩ a3).setCell ⟨g,4,none⟩ a4
theorem blk_put5 (h : W.heap[g]? = some (.cells #[x0,x1,x2,x3,x4] t (0,0))) : (set5 W g a0 a1 a2 a3 a4).heap[g]? = some (.cells #[a0,a1,a2,a3,a4] t (0,0)) :=
 blk_put (blk_put (blk_put (blk_put (blk_put h 0 a0 rfl) 1 a1 rfl) 2 a2 rfl) 3 a3 rfl) 4 a4 rfl
theorem blk_far5 (h : W.heap[k]? = some (.cells cs t (0,0))) (hne : k ≠ g) : (set5 W g a0 a1 a2 a3 a4).heap[k]? = some (.cells cs t (0,0)) :=
 blk_far (blk_far (blk_far (blk_far (blk_far h hne a0) hne a1) hne a2) hne a3) hne a4
theorem obj_far5 {o : Obj} (h : W.heap[k]? = some o) (hne : k ≠ g) : (set5 W g a0 a1 a2 a3 a4).heap[k]? = some o:=by
 unfold set5
 rw [Below.heap_setCell _ _ _ _ hne,Below.heap_setCell _ _ _ _ hne,Below.heap_setCell _ _ _ _ hne,Below.heap_setCell _ _ _ _ hne,Below.heap_setCell _ _ _ _ hne]
 exact h
theorem R_set5 (h : d.R e W base ok v xs) (hb : W.heap[g]? = some (.cells cs t (0,0))) (ht : ∀ q,q ∈ e :: d.E → q ≠ t) : d.R e (set5 W g a0 a1 a2 a3 a4) base ok v xs :=
 Kd.R_mono (Kd.R_far (p:=⟨g,4,none⟩) (Kd.R_far (p:=⟨g,3,none⟩) (Kd.R_far (p:=⟨g,2,none⟩) (Kd.R_far (p:=⟨g,1,none⟩) (Kd.R_far (p:=⟨g,0,none⟩) (Kd.R_types h hb ht) (fun _ hk => hk.2) a0) (fun _ hk => hk.2) a1) (fun _ hk => hk.2) a2) (fun _ hk => hk.2) a3) (fun _ hk => hk.2) a4) (fun _ hk => hk.1)
theorem below_set5 (h : Below w.heap.size w W) (hg : w.heap.size ≤ g) : Below w.heap.size w (set5 W g a0 a1 a2 a3 a4):=below_set (below_set (below_set (below_set (below_set h hg) hg) hg) hg) hg
end
theorem ne_sp : ∀ q,q ∈ 41 :: k41.E → q ≠ 28:=by intro q hq;have h2 : q ∈ [41]:=hq;simp at h2;omega
theorem ne_by : ∀ q,q ∈ 5 :: (Kd.int .u8).E → q ≠ 28:=by intro q hq;have h2 : q ∈ [5]:=hq;simp at h2;omega
theorem ne_by_sp : ∀ q,q ∈ 5 :: (Kd.int .u8).E → q ≠ 41:=by intro q hq;have h2 : q ∈ [5]:=hq;simp at h2;omega
theorem clone_u8 {l : List Int} (h : l.length < 1000000000) : bytes_Clone.f l = some l:=by
 unfold bytes_Clone.f
 rw [Option.bind_some,if_pos (by simp;omega),List.nil_append]
theorem clone_sp {l : List S41} (h : l.length < 1000000000) : api_Span.f l = some l:=by
 unfold api_Span.f
 rw [Option.bind_some,if_pos (by simp;omega),List.nil_append]
theorem own_ok {l1 : List S41} {l2 : List Int} (h1 : l1.length < 1000000000) (h2 : l2.length < 1000000000) (n : Int) (e : Bool) (z : Int) : gather_own.f n l1 l2 e z = some (n,l1,l2,e,z):=by
 unfold gather_own.f
 rw [clone_u8 h2,Option.bind_some,clone_sp h1,Option.bind_some]
set_option maxHeartbeats 8000000 in
set_option maxRecDepth 100000 in
/-- Size,where it is taken: what it hands back is in memory of its own. -/
theorem gather_Size.ok (nx : Int) (A1 : Option Addr) (c1 : Nat) (l1 : List S41) (A2 : Option Addr) (c2 : Nat) (l2 : List Int) (en : Bool) (sz e hi : Int) (w : World)
  (hr1 : Kd.C k41 w A1 l1.length l1) (hc1 : l1.length ≤ c1) (hr2 : Kd.C (Kd.int .u8) w A2 l2.length l2) (hc2 : l2.length ≤ c2) (hH : gather_High.f nx l1 l2 en sz = some hi) (hs : en = true → sz = e) (hh : hi ≤ e) (h1 : l1.length < 1000000000) (h2 : l2.length < 1000000000) :
  Calls Try.prog 13 #[.agg #[.int .u64 nx,.slice A1 l1.length c1,.slice A2 l2.length c2,.bool en,.int .u64 sz],.int .u64 e] w fun e9 w' => ∃ v1 v2 : Value,e9 = .returned (.tuple #[.agg #[.int .u64 nx,v1,v2,.bool true,.int .u64 e],.int .i64 0]) ∧ Kd.R k41 41 w' w.heap.size (fun _ => True) v1 l1 ∧ Kd.R (Kd.int .u8) 5 w' w.heap.size (fun _ => True) v2 l2 ∧ Below w.heap.size w w':=by
 have HR1:=Aside0.mk hr1
 have HR2:=Aside0.mk hr2
 have HC1:=Aside0.mk hc1
 have HC2:=Aside0.mk hc2
 have HH:=Aside0.mk hH
 have HO:=Aside0.mk (own_ok h1 h2 nx en sz)
 have HB:=Aside0.mk (Below.refl w.heap.size w)
 have ht : decide (e < hi) = false:=decide_eq_false (by omega)
 have hn : en = true → (sz != e) = false:=fun q => by rw [hs q];simp
 clear hr1 hr2 hc1 hc2 hH hs hh h1 h2
 have step : ∀ (b : Bool),en = b → Calls Try.prog 13 #[.agg #[.int .u64 nx,.slice A1 l1.length c1,.slice A2 l2.length c2,.bool en,.int .u64 sz],.int .u64 e] w fun e9 w' => ∃ v1 v2 : Value,e9 = .returned (.tuple #[.agg #[.int .u64 nx,v1,v2,.bool true,.int .u64 e],.int .i64 0]) ∧ Kd.R k41 41 w' w.heap.size (fun _ => True) v1 l1 ∧ Kd.R (Kd.int .u8) 5 w' w.heap.size (fun _ => True) v2 l2 ∧ Below w.heap.size w w':=by
  intro b hb0
  cases b with
  | false =>
   subst hb0
   clear hn
   go_enter Try.func13,Try.ntmps13
   go_upto_region 4 with (first
    | ((with_reducible refine gate_dst (N:=2) rfl ?_);refine box_event ?hg (N:=2) ?hd (cs:=#[.int .u64 nx,.slice A1 l1.length c1,.slice A2 l2.length c2,.bool false,.int .u64 sz]) (t:=28) ?hr ?_;(case hd => rfl);(case hg => rfl);(case hr => first | (go_simp;done) | (go_simp;rfl));intro gb2 hg w3 hbox hb;have n0_:=Aside0.mk (below_step HB.out hb);have GE2:=Aside0.mk (show w.heap.size ≤ gb2 by rw [hg];exact HB.out.size);clear HB;have HB:=n0_;have BK2:=Aside0.mk hbox;clear hbox hb hg n0_)
    | ((with_reducible refine gate_dst (N:=4) rfl ?_);refine box_event ?hg (N:=4) ?hd (cs:=#[.int .u64 0,.slice none 0 0,.slice none 0 0,.bool false,.int .u64 0]) (t:=28) ?hr ?_;(case hd => rfl);(case hg => rfl);(case hr => first | (go_simp;done) | (go_simp;rfl));intro gb4 hg w4 hbox hb;have n0_:=Aside0.mk (below_step HB.out hb);have GE4:=Aside0.mk (show w.heap.size ≤ gb4 by rw [hg];exact HB.out.size);have NB24 : gb2 ≠ gb4:=(by rw [hg];exact Nat.ne_of_lt (blk_lt BK2.out));have NB42:=NB24.symm;have n1_:=Aside0.mk (blk_below BK2.out hb);clear HB BK2;have HB:=n0_;have BK2:=n1_;have BK4:=Aside0.mk hbox;clear hbox hb hg n0_ n1_;have hx0 : w4.cell? ⟨gb2,0,none⟩ = some (.int .u64 nx):=(blk_cell BK2.out 0).trans rfl;have hx1 : w4.cell? ⟨gb2,1,none⟩ = some (.slice A1 l1.length c1):=(blk_cell BK2.out 1).trans rfl;have hx2 : w4.cell? ⟨gb2,2,none⟩ = some (.slice A2 l2.length c2):=(blk_cell BK2.out 2).trans rfl;have hx3 : w4.cell? ⟨gb2,3,none⟩ = some (.bool false):=(blk_cell BK2.out 3).trans rfl;have hx4 : w4.cell? ⟨gb2,4,none⟩ = some (.int .u64 sz):=(blk_cell BK2.out 4).trans rfl)
    | (go_at_call 12;(with_reducible refine (gather_High.calls nx _ _ l1 _ _ l2 false sz hi _ (Kd.C_below HR1.out HB.out) HC1.out (Kd.C_below HR2.out HB.out) HC2.out HH.out).mono ?_);rintro e9 w9 ⟨rfl,hb⟩;have n0_:=Aside0.mk (below_step HB.out hb);have n1_:=Aside0.mk (blk_below BK2.out hb);have n2_:=Aside0.mk (blk_below BK4.out hb);clear HB BK2 BK4 hx0 hx1 hx2 hx3 hx4;have HB:=n0_;have BK2:=n1_;have BK4:=n2_;clear hb n0_ n1_ n2_;have hx0 : w9.cell? ⟨gb2,0,none⟩ = some (.int .u64 nx):=(blk_cell BK2.out 0).trans rfl;have hx1 : w9.cell? ⟨gb2,1,none⟩ = some (.slice A1 l1.length c1):=(blk_cell BK2.out 1).trans rfl;have hx2 : w9.cell? ⟨gb2,2,none⟩ = some (.slice A2 l2.length c2):=(blk_cell BK2.out 2).trans rfl;have hx3 : w9.cell? ⟨gb2,3,none⟩ = some (.bool false):=(blk_cell BK2.out 3).trans rfl;have hx4 : w9.cell? ⟨gb2,4,none⟩ = some (.int .u64 sz):=(blk_cell BK2.out 4).trans rfl)
    | ((with_reducible refine gate_callee (f:=16) rfl ?_);refine goesL_ (some 22) rfl rfl Try.func16 (by kernel_rfl) rfl #[.agg #[.int .u64 nx,.slice A1 l1.length c1,.slice A2 l2.length c2,.bool false,.int .u64 sz]] rfl (by (try simp only [List.map_toArray,List.map_cons,List.map_nil]);first | done | rfl) ?_;(with_reducible refine (gather_own.calls nx _ _ l1 _ _ l2 false sz nx l1 l2 false sz _ (Kd.C_below HR1.out HB.out) HC1.out (Kd.C_below HR2.out HB.out) HC2.out HO.out).mono ?_);rintro e9 w10 ⟨v1,v2,rfl,ho1,ho2,hb⟩;refine ⟨_,rfl,?_⟩;have O1:=Aside0.mk (Kd.R_lower ho1 HB.out.size);have O2:=Aside0.mk (Kd.R_lower ho2 HB.out.size);have n0_:=Aside0.mk (below_step HB.out hb);have n1_:=Aside0.mk (blk_below BK2.out hb);have n2_:=Aside0.mk (blk_below BK4.out hb);clear HB BK2 BK4 hx0 hx1 hx2 hx3 hx4;have HB:=n0_;have BK2:=n1_;have BK4:=n2_;clear hb n0_ n1_ n2_ ho1 ho2;obtain ⟨Ao,co,eo⟩:=Kd.R_slice O1.out;subst eo;obtain ⟨Ap,cp,ep⟩:=Kd.R_slice O2.out;subst ep;have hx0 : w10.cell? ⟨gb2,0,none⟩ = some (.int .u64 nx):=(blk_cell BK2.out 0).trans rfl;have hx1 : w10.cell? ⟨gb2,1,none⟩ = some (.slice A1 l1.length c1):=(blk_cell BK2.out 1).trans rfl;have hx2 : w10.cell? ⟨gb2,2,none⟩ = some (.slice A2 l2.length c2):=(blk_cell BK2.out 2).trans rfl;have hx3 : w10.cell? ⟨gb2,3,none⟩ = some (.bool false):=(blk_cell BK2.out 3).trans rfl;have hx4 : w10.cell? ⟨gb2,4,none⟩ = some (.int .u64 sz):=(blk_cell BK2.out 4).trans rfl;have hf0:=blk_frozen BK2.out 0;have hf1:=blk_frozen BK2.out 1;have hf2:=blk_frozen BK2.out 2;have hf3:=blk_frozen BK2.out 3;have hf4:=blk_frozen BK2.out 4;have hy0 : w10.cell? ⟨gb4,0,none⟩ = some (.int .u64 0):=(blk_cell BK4.out 0).trans rfl;have hy1 : w10.cell? ⟨gb4,1,none⟩ = some (.slice none 0 0):=(blk_cell BK4.out 1).trans rfl;have hy2 : w10.cell? ⟨gb4,2,none⟩ = some (.slice none 0 0):=(blk_cell BK4.out 2).trans rfl;have hy3 : w10.cell? ⟨gb4,3,none⟩ = some (.bool false):=(blk_cell BK4.out 3).trans rfl;have hy4 : w10.cell? ⟨gb4,4,none⟩ = some (.int .u64 0):=(blk_cell BK4.out 4).trans rfl;have hg0:=blk_frozen BK4.out 0;have hg1:=blk_frozen BK4.out 1;have hg2:=blk_frozen BK4.out 2;have hg3:=blk_frozen BK4.out 3;have hg4:=blk_frozen BK4.out 4))
   clear hx0 hx1 hx2 hx3 hx4 hf0 hf1 hf2 hf3 hf4 hy0 hy1 hy2 hy3 hy4 hg0 hg1 hg2 hg3 hg4
   have n1_ : Aside0 ((((((w10.setCell ⟨gb2,0,none⟩ (.int .u64 nx)).setCell ⟨gb2,1,none⟩ (.slice Ao l1.length co)).setCell ⟨gb2,2,none⟩ (.slice Ap l2.length cp)).setCell ⟨gb2,3,none⟩ (.bool false)).setCell ⟨gb2,4,none⟩ (.int .u64 sz)).heap[gb2]? = some (.cells #[.int .u64 nx,.slice Ao l1.length co,.slice Ap l2.length cp,.bool false,.int .u64 sz] 28 (0,0))):=⟨blk_put (blk_put (blk_put (blk_put (blk_put (BK2.out) 0 (.int .u64 nx) (cs':=#[.int .u64 nx,.slice A1 l1.length c1,.slice A2 l2.length c2,.bool false,.int .u64 sz]) rfl) 1 (.slice Ao l1.length co) (cs':=#[.int .u64 nx,.slice Ao l1.length co,.slice A2 l2.length c2,.bool false,.int .u64 sz]) rfl) 2 (.slice Ap l2.length cp) (cs':=#[.int .u64 nx,.slice Ao l1.length co,.slice Ap l2.length cp,.bool false,.int .u64 sz]) rfl) 3 (.bool false) (cs':=#[.int .u64 nx,.slice Ao l1.length co,.slice Ap l2.length cp,.bool false,.int .u64 sz]) rfl) 4 (.int .u64 sz) (cs':=#[.int .u64 nx,.slice Ao l1.length co,.slice Ap l2.length cp,.bool false,.int .u64 sz]) rfl⟩
   have n2_ : Aside0 ((((((w10.setCell ⟨gb2,0,none⟩ (.int .u64 nx)).setCell ⟨gb2,1,none⟩ (.slice Ao l1.length co)).setCell ⟨gb2,2,none⟩ (.slice Ap l2.length cp)).setCell ⟨gb2,3,none⟩ (.bool false)).setCell ⟨gb2,4,none⟩ (.int .u64 sz)).heap[gb4]? = some (.cells #[.int .u64 0,.slice none 0 0,.slice none 0 0,.bool false,.int .u64 0] 28 (0,0))):=⟨blk_far (p:=⟨gb2,4,none⟩) (blk_far (p:=⟨gb2,3,none⟩) (blk_far (p:=⟨gb2,2,none⟩) (blk_far (p:=⟨gb2,1,none⟩) (blk_far (p:=⟨gb2,0,none⟩) (BK4.out) NB42 (.int .u64 nx)) NB42 (.slice Ao l1.length co)) NB42 (.slice Ap l2.length cp)) NB42 (.bool false)) NB42 (.int .u64 sz)⟩
   have n3_ : Aside0 (Kd.R k41 41 (((((w10.setCell ⟨gb2,0,none⟩ (.int .u64 nx)).setCell ⟨gb2,1,none⟩ (.slice Ao l1.length co)).setCell ⟨gb2,2,none⟩ (.slice Ap l2.length cp)).setCell ⟨gb2,3,none⟩ (.bool false)).setCell ⟨gb2,4,none⟩ (.int .u64 sz)) w.heap.size (fun _ => True) (.slice Ao l1.length co) l1):=⟨Kd.R_mono (Kd.R_far (p:=⟨gb2,4,none⟩) (Kd.R_far (p:=⟨gb2,3,none⟩) (Kd.R_far (p:=⟨gb2,2,none⟩) (Kd.R_far (p:=⟨gb2,1,none⟩) (Kd.R_far (p:=⟨gb2,0,none⟩) (Kd.R_types O1.out BK2.out ne_sp) (fun _ hk => hk.2) (.int .u64 nx)) (fun _ hk => hk.2) (.slice Ao l1.length co)) (fun _ hk => hk.2) (.slice Ap l2.length cp)) (fun _ hk => hk.2) (.bool false)) (fun _ hk => hk.2) (.int .u64 sz)) (fun _ hk => hk.1)⟩
   have n4_ : Aside0 (Kd.R (Kd.int .u8) 5 (((((w10.setCell ⟨gb2,0,none⟩ (.int .u64 nx)).setCell ⟨gb2,1,none⟩ (.slice Ao l1.length co)).setCell ⟨gb2,2,none⟩ (.slice Ap l2.length cp)).setCell ⟨gb2,3,none⟩ (.bool false)).setCell ⟨gb2,4,none⟩ (.int .u64 sz)) w.heap.size (fun _ => True) (.slice Ap l2.length cp) l2):=⟨Kd.R_mono (Kd.R_far (p:=⟨gb2,4,none⟩) (Kd.R_far (p:=⟨gb2,3,none⟩) (Kd.R_far (p:=⟨gb2,2,none⟩) (Kd.R_far (p:=⟨gb2,1,none⟩) (Kd.R_far (p:=⟨gb2,0,none⟩) (Kd.R_types O2.out BK2.out ne_by) (fun _ hk => hk.2) (.int .u64 nx)) (fun _ hk => hk.2) (.slice Ao l1.length co)) (fun _ hk => hk.2) (.slice Ap l2.length cp)) (fun _ hk => hk.2) (.bool false)) (fun _ hk => hk.2) (.int .u64 sz)) (fun _ hk => hk.1)⟩
   have n5_ : Aside0 (Below w.heap.size w (((((w10.setCell ⟨gb2,0,none⟩ (.int .u64 nx)).setCell ⟨gb2,1,none⟩ (.slice Ao l1.length co)).setCell ⟨gb2,2,none⟩ (.slice Ap l2.length cp)).setCell ⟨gb2,3,none⟩ (.bool false)).setCell ⟨gb2,4,none⟩ (.int .u64 sz))):=⟨below_set (below_set (below_set (below_set (below_set (HB.out) GE2.out (j:=0) (v:=.int .u64 nx)) GE2.out (j:=1) (v:=.slice Ao l1.length co)) GE2.out (j:=2) (v:=.slice Ap l2.length cp)) GE2.out (j:=3) (v:=.bool false)) GE2.out (j:=4) (v:=.int .u64 sz)⟩
   clear BK2 BK4 O1 O2 HB
   have BK2:=n1_
   have BK4:=n2_
   have O1:=n3_
   have O2:=n4_
   have HB:=n5_
   clear n1_ n2_ n3_ n4_ n5_
   generalize (((((w10.setCell ⟨gb2,0,none⟩ (.int .u64 nx)).setCell ⟨gb2,1,none⟩ (.slice Ao l1.length co)).setCell ⟨gb2,2,none⟩ (.slice Ap l2.length cp)).setCell ⟨gb2,3,none⟩ (.bool false)).setCell ⟨gb2,4,none⟩ (.int .u64 sz)) = w11 at BK2 BK4 O1 O2 HB ⊢
   have hx_gb2_0 : w11.cell? ⟨gb2,0,none⟩ = some (.int .u64 nx):=(blk_cell BK2.out 0).trans rfl
   have hf_gb2_0:=blk_frozen BK2.out 0
   have hx_gb2_1 : w11.cell? ⟨gb2,1,none⟩ = some (.slice Ao l1.length co):=(blk_cell BK2.out 1).trans rfl
   have hf_gb2_1:=blk_frozen BK2.out 1
   have hx_gb2_2 : w11.cell? ⟨gb2,2,none⟩ = some (.slice Ap l2.length cp):=(blk_cell BK2.out 2).trans rfl
   have hf_gb2_2:=blk_frozen BK2.out 2
   have hx_gb2_3 : w11.cell? ⟨gb2,3,none⟩ = some (.bool false):=(blk_cell BK2.out 3).trans rfl
   have hf_gb2_3:=blk_frozen BK2.out 3
   have hx_gb2_4 : w11.cell? ⟨gb2,4,none⟩ = some (.int .u64 sz):=(blk_cell BK2.out 4).trans rfl
   have hf_gb2_4:=blk_frozen BK2.out 4
   go_upto_region 5 with fail
   clear hx_gb2_0 hf_gb2_0 hx_gb2_1 hf_gb2_1 hx_gb2_2 hf_gb2_2 hx_gb2_3 hf_gb2_3 hx_gb2_4 hf_gb2_4
   have n6_ : Aside0 (((w11.setCell ⟨gb2,3,none⟩ (.bool true)).setCell ⟨gb2,4,none⟩ (.int .u64 e)).heap[gb2]? = some (.cells #[.int .u64 nx,.slice Ao l1.length co,.slice Ap l2.length cp,.bool true,.int .u64 e] 28 (0,0))):=⟨blk_put (blk_put (BK2.out) 3 (.bool true) (cs':=#[.int .u64 nx,.slice Ao l1.length co,.slice Ap l2.length cp,.bool true,.int .u64 sz]) rfl) 4 (.int .u64 e) (cs':=#[.int .u64 nx,.slice Ao l1.length co,.slice Ap l2.length cp,.bool true,.int .u64 e]) rfl⟩
   have n7_ : Aside0 (((w11.setCell ⟨gb2,3,none⟩ (.bool true)).setCell ⟨gb2,4,none⟩ (.int .u64 e)).heap[gb4]? = some (.cells #[.int .u64 0,.slice none 0 0,.slice none 0 0,.bool false,.int .u64 0] 28 (0,0))):=⟨blk_far (p:=⟨gb2,4,none⟩) (blk_far (p:=⟨gb2,3,none⟩) (BK4.out) NB42 (.bool true)) NB42 (.int .u64 e)⟩
   have n8_ : Aside0 (Kd.R k41 41 ((w11.setCell ⟨gb2,3,none⟩ (.bool true)).setCell ⟨gb2,4,none⟩ (.int .u64 e)) w.heap.size (fun _ => True) (.slice Ao l1.length co) l1):=⟨Kd.R_mono (Kd.R_far (p:=⟨gb2,4,none⟩) (Kd.R_far (p:=⟨gb2,3,none⟩) (Kd.R_types O1.out BK2.out ne_sp) (fun _ hk => hk.2) (.bool true)) (fun _ hk => hk.2) (.int .u64 e)) (fun _ hk => hk.1)⟩
   have n9_ : Aside0 (Kd.R (Kd.int .u8) 5 ((w11.setCell ⟨gb2,3,none⟩ (.bool true)).setCell ⟨gb2,4,none⟩ (.int .u64 e)) w.heap.size (fun _ => True) (.slice Ap l2.length cp) l2):=⟨Kd.R_mono (Kd.R_far (p:=⟨gb2,4,none⟩) (Kd.R_far (p:=⟨gb2,3,none⟩) (Kd.R_types O2.out BK2.out ne_by) (fun _ hk => hk.2) (.bool true)) (fun _ hk => hk.2) (.int .u64 e)) (fun _ hk => hk.1)⟩
   have n10_ : Aside0 (Below w.heap.size w ((w11.setCell ⟨gb2,3,none⟩ (.bool true)).setCell ⟨gb2,4,none⟩ (.int .u64 e))):=⟨below_set (below_set (HB.out) GE2.out (j:=3) (v:=.bool true)) GE2.out (j:=4) (v:=.int .u64 e)⟩
   clear BK2 BK4 O1 O2 HB
   have BK2:=n6_
   have BK4:=n7_
   have O1:=n8_
   have O2:=n9_
   have HB:=n10_
   clear n6_ n7_ n8_ n9_ n10_
   generalize ((w11.setCell ⟨gb2,3,none⟩ (.bool true)).setCell ⟨gb2,4,none⟩ (.int .u64 e)) = w12 at BK2 BK4 O1 O2 HB ⊢
   have hx_gb2_0 : w12.cell? ⟨gb2,0,none⟩ = some (.int .u64 nx):=(blk_cell BK2.out 0).trans rfl
   have hf_gb2_0:=blk_frozen BK2.out 0
   have hx_gb2_1 : w12.cell? ⟨gb2,1,none⟩ = some (.slice Ao l1.length co):=(blk_cell BK2.out 1).trans rfl
   have hf_gb2_1:=blk_frozen BK2.out 1
   have hx_gb2_2 : w12.cell? ⟨gb2,2,none⟩ = some (.slice Ap l2.length cp):=(blk_cell BK2.out 2).trans rfl
   have hf_gb2_2:=blk_frozen BK2.out 2
   have hx_gb2_3 : w12.cell? ⟨gb2,3,none⟩ = some (.bool true):=(blk_cell BK2.out 3).trans rfl
   have hf_gb2_3:=blk_frozen BK2.out 3
   have hx_gb2_4 : w12.cell? ⟨gb2,4,none⟩ = some (.int .u64 e):=(blk_cell BK2.out 4).trans rfl
   have hf_gb2_4:=blk_frozen BK2.out 4
   have hx_gb4_0 : w12.cell? ⟨gb4,0,none⟩ = some (.int .u64 0):=(blk_cell BK4.out 0).trans rfl
   have hf_gb4_0:=blk_frozen BK4.out 0
   have hx_gb4_1 : w12.cell? ⟨gb4,1,none⟩ = some (.slice none 0 0):=(blk_cell BK4.out 1).trans rfl
   have hf_gb4_1:=blk_frozen BK4.out 1
   have hx_gb4_2 : w12.cell? ⟨gb4,2,none⟩ = some (.slice none 0 0):=(blk_cell BK4.out 2).trans rfl
   have hf_gb4_2:=blk_frozen BK4.out 2
   have hx_gb4_3 : w12.cell? ⟨gb4,3,none⟩ = some (.bool false):=(blk_cell BK4.out 3).trans rfl
   have hf_gb4_3:=blk_frozen BK4.out 3
   have hx_gb4_4 : w12.cell? ⟨gb4,4,none⟩ = some (.int .u64 0):=(blk_cell BK4.out 4).trans rfl
   have hf_gb4_4:=blk_frozen BK4.out 4
   go_wp2
   refine bodyPost_ret (results_ct rfl _ _ gb4 28 #[.int .u64 nx,.slice Ao l1.length co,.slice Ap l2.length cp,.bool true,.int .u64 e] (0,0) _ rfl (blk_put5 BK4.out) Try.underlying28 rfl (by kernel_rfl)) rfl ?_
   exact ⟨_,_,rfl,R_set5 O1.out BK4.out ne_sp,R_set5 O2.out BK4.out ne_by,below_set5 HB.out GE4.out⟩
  | true =>
   subst hb0
   have hn2:=hn rfl
   clear hn
   go_enter Try.func13,Try.ntmps13
   go_upto_region 4 with (first
    | ((with_reducible refine gate_dst (N:=2) rfl ?_);refine box_event ?hg (N:=2) ?hd (cs:=#[.int .u64 nx,.slice A1 l1.length c1,.slice A2 l2.length c2,.bool true,.int .u64 sz]) (t:=28) ?hr ?_;(case hd => rfl);(case hg => rfl);(case hr => first | (go_simp;done) | (go_simp;rfl));intro gb2 hg w3 hbox hb;have n0_:=Aside0.mk (below_step HB.out hb);have GE2:=Aside0.mk (show w.heap.size ≤ gb2 by rw [hg];exact HB.out.size);clear HB;have HB:=n0_;have BK2:=Aside0.mk hbox;clear hbox hb hg n0_)
    | ((with_reducible refine gate_dst (N:=4) rfl ?_);refine box_event ?hg (N:=4) ?hd (cs:=#[.int .u64 0,.slice none 0 0,.slice none 0 0,.bool false,.int .u64 0]) (t:=28) ?hr ?_;(case hd => rfl);(case hg => rfl);(case hr => first | (go_simp;done) | (go_simp;rfl));intro gb4 hg w4 hbox hb;have n0_:=Aside0.mk (below_step HB.out hb);have GE4:=Aside0.mk (show w.heap.size ≤ gb4 by rw [hg];exact HB.out.size);have NB24 : gb2 ≠ gb4:=(by rw [hg];exact Nat.ne_of_lt (blk_lt BK2.out));have NB42:=NB24.symm;have n1_:=Aside0.mk (blk_below BK2.out hb);clear HB BK2;have HB:=n0_;have BK2:=n1_;have BK4:=Aside0.mk hbox;clear hbox hb hg n0_ n1_;have hx0 : w4.cell? ⟨gb2,0,none⟩ = some (.int .u64 nx):=(blk_cell BK2.out 0).trans rfl;have hx1 : w4.cell? ⟨gb2,1,none⟩ = some (.slice A1 l1.length c1):=(blk_cell BK2.out 1).trans rfl;have hx2 : w4.cell? ⟨gb2,2,none⟩ = some (.slice A2 l2.length c2):=(blk_cell BK2.out 2).trans rfl;have hx3 : w4.cell? ⟨gb2,3,none⟩ = some (.bool true):=(blk_cell BK2.out 3).trans rfl;have hx4 : w4.cell? ⟨gb2,4,none⟩ = some (.int .u64 sz):=(blk_cell BK2.out 4).trans rfl)
    | (go_at_call 12;(with_reducible refine (gather_High.calls nx _ _ l1 _ _ l2 true sz hi _ (Kd.C_below HR1.out HB.out) HC1.out (Kd.C_below HR2.out HB.out) HC2.out HH.out).mono ?_);rintro e9 w9 ⟨rfl,hb⟩;have n0_:=Aside0.mk (below_step HB.out hb);have n1_:=Aside0.mk (blk_below BK2.out hb);have n2_:=Aside0.mk (blk_below BK4.out hb);clear HB BK2 BK4 hx0 hx1 hx2 hx3 hx4;have HB:=n0_;have BK2:=n1_;have BK4:=n2_;clear hb n0_ n1_ n2_;have hx0 : w9.cell? ⟨gb2,0,none⟩ = some (.int .u64 nx):=(blk_cell BK2.out 0).trans rfl;have hx1 : w9.cell? ⟨gb2,1,none⟩ = some (.slice A1 l1.length c1):=(blk_cell BK2.out 1).trans rfl;have hx2 : w9.cell? ⟨gb2,2,none⟩ = some (.slice A2 l2.length c2):=(blk_cell BK2.out 2).trans rfl;have hx3 : w9.cell? ⟨gb2,3,none⟩ = some (.bool true):=(blk_cell BK2.out 3).trans rfl;have hx4 : w9.cell? ⟨gb2,4,none⟩ = some (.int .u64 sz):=(blk_cell BK2.out 4).trans rfl)
    | ((with_reducible refine gate_callee (f:=16) rfl ?_);refine goesL_ (some 22) rfl rfl Try.func16 (by kernel_rfl) rfl #[.agg #[.int .u64 nx,.slice A1 l1.length c1,.slice A2 l2.length c2,.bool true,.int .u64 sz]] rfl (by (try simp only [List.map_toArray,List.map_cons,List.map_nil]);first | done | rfl) ?_;(with_reducible refine (gather_own.calls nx _ _ l1 _ _ l2 true sz nx l1 l2 true sz _ (Kd.C_below HR1.out HB.out) HC1.out (Kd.C_below HR2.out HB.out) HC2.out HO.out).mono ?_);rintro e9 w10 ⟨v1,v2,rfl,ho1,ho2,hb⟩;refine ⟨_,rfl,?_⟩;have O1:=Aside0.mk (Kd.R_lower ho1 HB.out.size);have O2:=Aside0.mk (Kd.R_lower ho2 HB.out.size);have n0_:=Aside0.mk (below_step HB.out hb);have n1_:=Aside0.mk (blk_below BK2.out hb);have n2_:=Aside0.mk (blk_below BK4.out hb);clear HB BK2 BK4 hx0 hx1 hx2 hx3 hx4;have HB:=n0_;have BK2:=n1_;have BK4:=n2_;clear hb n0_ n1_ n2_ ho1 ho2;obtain ⟨Ao,co,eo⟩:=Kd.R_slice O1.out;subst eo;obtain ⟨Ap,cp,ep⟩:=Kd.R_slice O2.out;subst ep;have hx0 : w10.cell? ⟨gb2,0,none⟩ = some (.int .u64 nx):=(blk_cell BK2.out 0).trans rfl;have hx1 : w10.cell? ⟨gb2,1,none⟩ = some (.slice A1 l1.length c1):=(blk_cell BK2.out 1).trans rfl;have hx2 : w10.cell? ⟨gb2,2,none⟩ = some (.slice A2 l2.length c2):=(blk_cell BK2.out 2).trans rfl;have hx3 : w10.cell? ⟨gb2,3,none⟩ = some (.bool true):=(blk_cell BK2.out 3).trans rfl;have hx4 : w10.cell? ⟨gb2,4,none⟩ = some (.int .u64 sz):=(blk_cell BK2.out 4).trans rfl;have hf0:=blk_frozen BK2.out 0;have hf1:=blk_frozen BK2.out 1;have hf2:=blk_frozen BK2.out 2;have hf3:=blk_frozen BK2.out 3;have hf4:=blk_frozen BK2.out 4;have hy0 : w10.cell? ⟨gb4,0,none⟩ = some (.int .u64 0):=(blk_cell BK4.out 0).trans rfl;have hy1 : w10.cell? ⟨gb4,1,none⟩ = some (.slice none 0 0):=(blk_cell BK4.out 1).trans rfl;have hy2 : w10.cell? ⟨gb4,2,none⟩ = some (.slice none 0 0):=(blk_cell BK4.out 2).trans rfl;have hy3 : w10.cell? ⟨gb4,3,none⟩ = some (.bool false):=(blk_cell BK4.out 3).trans rfl;have hy4 : w10.cell? ⟨gb4,4,none⟩ = some (.int .u64 0):=(blk_cell BK4.out 4).trans rfl;have hg0:=blk_frozen BK4.out 0;have hg1:=blk_frozen BK4.out 1;have hg2:=blk_frozen BK4.out 2;have hg3:=blk_frozen BK4.out 3;have hg4:=blk_frozen BK4.out 4))
   clear hx0 hx1 hx2 hx3 hx4 hf0 hf1 hf2 hf3 hf4 hy0 hy1 hy2 hy3 hy4 hg0 hg1 hg2 hg3 hg4
   have n1_ : Aside0 ((((((w10.setCell ⟨gb2,0,none⟩ (.int .u64 nx)).setCell ⟨gb2,1,none⟩ (.slice Ao l1.length co)).setCell ⟨gb2,2,none⟩ (.slice Ap l2.length cp)).setCell ⟨gb2,3,none⟩ (.bool true)).setCell ⟨gb2,4,none⟩ (.int .u64 sz)).heap[gb2]? = some (.cells #[.int .u64 nx,.slice Ao l1.length co,.slice Ap l2.length cp,.bool true,.int .u64 sz] 28 (0,0))):=⟨blk_put (blk_put (blk_put (blk_put (blk_put (BK2.out) 0 (.int .u64 nx) (cs':=#[.int .u64 nx,.slice A1 l1.length c1,.slice A2 l2.length c2,.bool true,.int .u64 sz]) rfl) 1 (.slice Ao l1.length co) (cs':=#[.int .u64 nx,.slice Ao l1.length co,.slice A2 l2.length c2,.bool true,.int .u64 sz]) rfl) 2 (.slice Ap l2.length cp) (cs':=#[.int .u64 nx,.slice Ao l1.length co,.slice Ap l2.length cp,.bool true,.int .u64 sz]) rfl) 3 (.bool true) (cs':=#[.int .u64 nx,.slice Ao l1.length co,.slice Ap l2.length cp,.bool true,.int .u64 sz]) rfl) 4 (.int .u64 sz) (cs':=#[.int .u64 nx,.slice Ao l1.length co,.slice Ap l2.length cp,.bool true,.int .u64 sz]) rfl⟩
   have n2_ : Aside0 ((((((w10.setCell ⟨gb2,0,none⟩ (.int .u64 nx)).setCell ⟨gb2,1,none⟩ (.slice Ao l1.length co)).setCell ⟨gb2,2,none⟩ (.slice Ap l2.length cp)).setCell ⟨gb2,3,none⟩ (.bool true)).setCell ⟨gb2,4,none⟩ (.int .u64 sz)).heap[gb4]? = some (.cells #[.int .u64 0,.slice none 0 0,.slice none 0 0,.bool false,.int .u64 0] 28 (0,0))):=⟨blk_far (p:=⟨gb2,4,none⟩) (blk_far (p:=⟨gb2,3,none⟩) (blk_far (p:=⟨gb2,2,none⟩) (blk_far (p:=⟨gb2,1,none⟩) (blk_far (p:=⟨gb2,0,none⟩) (BK4.out) NB42 (.int .u64 nx)) NB42 (.slice Ao l1.length co)) NB42 (.slice Ap l2.length cp)) NB42 (.bool true)) NB42 (.int .u64 sz)⟩
   have n3_ : Aside0 (Kd.R k41 41 (((((w10.setCell ⟨gb2,0,none⟩ (.int .u64 nx)).setCell ⟨gb2,1,none⟩ (.slice Ao l1.length co)).setCell ⟨gb2,2,none⟩ (.slice Ap l2.length cp)).setCell ⟨gb2,3,none⟩ (.bool true)).setCell ⟨gb2,4,none⟩ (.int .u64 sz)) w.heap.size (fun _ => True) (.slice Ao l1.length co) l1):=⟨Kd.R_mono (Kd.R_far (p:=⟨gb2,4,none⟩) (Kd.R_far (p:=⟨gb2,3,none⟩) (Kd.R_far (p:=⟨gb2,2,none⟩) (Kd.R_far (p:=⟨gb2,1,none⟩) (Kd.R_far (p:=⟨gb2,0,none⟩) (Kd.R_types O1.out BK2.out ne_sp) (fun _ hk => hk.2) (.int .u64 nx)) (fun _ hk => hk.2) (.slice Ao l1.length co)) (fun _ hk => hk.2) (.slice Ap l2.length cp)) (fun _ hk => hk.2) (.bool true)) (fun _ hk => hk.2) (.int .u64 sz)) (fun _ hk => hk.1)⟩
   have n4_ : Aside0 (Kd.R (Kd.int .u8) 5 (((((w10.setCell ⟨gb2,0,none⟩ (.int .u64 nx)).setCell ⟨gb2,1,none⟩ (.slice Ao l1.length co)).setCell ⟨gb2,2,none⟩ (.slice Ap l2.length cp)).setCell ⟨gb2,3,none⟩ (.bool true)).setCell ⟨gb2,4,none⟩ (.int .u64 sz)) w.heap.size (fun _ => True) (.slice Ap l2.length cp) l2):=⟨Kd.R_mono (Kd.R_far (p:=⟨gb2,4,none⟩) (Kd.R_far (p:=⟨gb2,3,none⟩) (Kd.R_far (p:=⟨gb2,2,none⟩) (Kd.R_far (p:=⟨gb2,1,none⟩) (Kd.R_far (p:=⟨gb2,0,none⟩) (Kd.R_types O2.out BK2.out ne_by) (fun _ hk => hk.2) (.int .u64 nx)) (fun _ hk => hk.2) (.slice Ao l1.length co)) (fun _ hk => hk.2) (.slice Ap l2.length cp)) (fun _ hk => hk.2) (.bool true)) (fun _ hk => hk.2) (.int .u64 sz)) (fun _ hk => hk.1)⟩
   have n5_ : Aside0 (Below w.heap.size w (((((w10.setCell ⟨gb2,0,none⟩ (.int .u64 nx)).setCell ⟨gb2,1,none⟩ (.slice Ao l1.length co)).setCell ⟨gb2,2,none⟩ (.slice Ap l2.length cp)).setCell ⟨gb2,3,none⟩ (.bool true)).setCell ⟨gb2,4,none⟩ (.int .u64 sz))):=⟨below_set (below_set (below_set (below_set (below_set (HB.out) GE2.out (j:=0) (v:=.int .u64 nx)) GE2.out (j:=1) (v:=.slice Ao l1.length co)) GE2.out (j:=2) (v:=.slice Ap l2.length cp)) GE2.out (j:=3) (v:=.bool true)) GE2.out (j:=4) (v:=.int .u64 sz)⟩
   clear BK2 BK4 O1 O2 HB
   have BK2:=n1_
   have BK4:=n2_
   have O1:=n3_
   have O2:=n4_
   have HB:=n5_
   clear n1_ n2_ n3_ n4_ n5_
   generalize (((((w10.setCell ⟨gb2,0,none⟩ (.int .u64 nx)).setCell ⟨gb2,1,none⟩ (.slice Ao l1.length co)).setCell ⟨gb2,2,none⟩ (.slice Ap l2.length cp)).setCell ⟨gb2,3,none⟩ (.bool true)).setCell ⟨gb2,4,none⟩ (.int .u64 sz)) = w11 at BK2 BK4 O1 O2 HB ⊢
   have hx_gb2_0 : w11.cell? ⟨gb2,0,none⟩ = some (.int .u64 nx):=(blk_cell BK2.out 0).trans rfl
   have hf_gb2_0:=blk_frozen BK2.out 0
   have hx_gb2_1 : w11.cell? ⟨gb2,1,none⟩ = some (.slice Ao l1.length co):=(blk_cell BK2.out 1).trans rfl
   have hf_gb2_1:=blk_frozen BK2.out 1
   have hx_gb2_2 : w11.cell? ⟨gb2,2,none⟩ = some (.slice Ap l2.length cp):=(blk_cell BK2.out 2).trans rfl
   have hf_gb2_2:=blk_frozen BK2.out 2
   have hx_gb2_3 : w11.cell? ⟨gb2,3,none⟩ = some (.bool true):=(blk_cell BK2.out 3).trans rfl
   have hf_gb2_3:=blk_frozen BK2.out 3
   have hx_gb2_4 : w11.cell? ⟨gb2,4,none⟩ = some (.int .u64 sz):=(blk_cell BK2.out 4).trans rfl
   have hf_gb2_4:=blk_frozen BK2.out 4
   go_upto_region 5 with fail
   clear hx_gb2_0 hf_gb2_0 hx_gb2_1 hf_gb2_1 hx_gb2_2 hf_gb2_2 hx_gb2_3 hf_gb2_3 hx_gb2_4 hf_gb2_4
   have n6_ : Aside0 (((w11.setCell ⟨gb2,3,none⟩ (.bool true)).setCell ⟨gb2,4,none⟩ (.int .u64 e)).heap[gb2]? = some (.cells #[.int .u64 nx,.slice Ao l1.length co,.slice Ap l2.length cp,.bool true,.int .u64 e] 28 (0,0))):=⟨blk_put (blk_put (BK2.out) 3 (.bool true) (cs':=#[.int .u64 nx,.slice Ao l1.length co,.slice Ap l2.length cp,.bool true,.int .u64 sz]) rfl) 4 (.int .u64 e) (cs':=#[.int .u64 nx,.slice Ao l1.length co,.slice Ap l2.length cp,.bool true,.int .u64 e]) rfl⟩
   have n7_ : Aside0 (((w11.setCell ⟨gb2,3,none⟩ (.bool true)).setCell ⟨gb2,4,none⟩ (.int .u64 e)).heap[gb4]? = some (.cells #[.int .u64 0,.slice none 0 0,.slice none 0 0,.bool false,.int .u64 0] 28 (0,0))):=⟨blk_far (p:=⟨gb2,4,none⟩) (blk_far (p:=⟨gb2,3,none⟩) (BK4.out) NB42 (.bool true)) NB42 (.int .u64 e)⟩
   have n8_ : Aside0 (Kd.R k41 41 ((w11.setCell ⟨gb2,3,none⟩ (.bool true)).setCell ⟨gb2,4,none⟩ (.int .u64 e)) w.heap.size (fun _ => True) (.slice Ao l1.length co) l1):=⟨Kd.R_mono (Kd.R_far (p:=⟨gb2,4,none⟩) (Kd.R_far (p:=⟨gb2,3,none⟩) (Kd.R_types O1.out BK2.out ne_sp) (fun _ hk => hk.2) (.bool true)) (fun _ hk => hk.2) (.int .u64 e)) (fun _ hk => hk.1)⟩
   have n9_ : Aside0 (Kd.R (Kd.int .u8) 5 ((w11.setCell ⟨gb2,3,none⟩ (.bool true)).setCell ⟨gb2,4,none⟩ (.int .u64 e)) w.heap.size (fun _ => True) (.slice Ap l2.length cp) l2):=⟨Kd.R_mono (Kd.R_far (p:=⟨gb2,4,none⟩) (Kd.R_far (p:=⟨gb2,3,none⟩) (Kd.R_types O2.out BK2.out ne_by) (fun _ hk => hk.2) (.bool true)) (fun _ hk => hk.2) (.int .u64 e)) (fun _ hk => hk.1)⟩
   have n10_ : Aside0 (Below w.heap.size w ((w11.setCell ⟨gb2,3,none⟩ (.bool true)).setCell ⟨gb2,4,none⟩ (.int .u64 e))):=⟨below_set (below_set (HB.out) GE2.out (j:=3) (v:=.bool true)) GE2.out (j:=4) (v:=.int .u64 e)⟩
   clear BK2 BK4 O1 O2 HB
   have BK2:=n6_
   have BK4:=n7_
   have O1:=n8_
   have O2:=n9_
   have HB:=n10_
   clear n6_ n7_ n8_ n9_ n10_
   generalize ((w11.setCell ⟨gb2,3,none⟩ (.bool true)).setCell ⟨gb2,4,none⟩ (.int .u64 e)) = w12 at BK2 BK4 O1 O2 HB ⊢
   have hx_gb2_0 : w12.cell? ⟨gb2,0,none⟩ = some (.int .u64 nx):=(blk_cell BK2.out 0).trans rfl
   have hf_gb2_0:=blk_frozen BK2.out 0
   have hx_gb2_1 : w12.cell? ⟨gb2,1,none⟩ = some (.slice Ao l1.length co):=(blk_cell BK2.out 1).trans rfl
   have hf_gb2_1:=blk_frozen BK2.out 1
   have hx_gb2_2 : w12.cell? ⟨gb2,2,none⟩ = some (.slice Ap l2.length cp):=(blk_cell BK2.out 2).trans rfl
   have hf_gb2_2:=blk_frozen BK2.out 2
   have hx_gb2_3 : w12.cell? ⟨gb2,3,none⟩ = some (.bool true):=(blk_cell BK2.out 3).trans rfl
   have hf_gb2_3:=blk_frozen BK2.out 3
   have hx_gb2_4 : w12.cell? ⟨gb2,4,none⟩ = some (.int .u64 e):=(blk_cell BK2.out 4).trans rfl
   have hf_gb2_4:=blk_frozen BK2.out 4
   have hx_gb4_0 : w12.cell? ⟨gb4,0,none⟩ = some (.int .u64 0):=(blk_cell BK4.out 0).trans rfl
   have hf_gb4_0:=blk_frozen BK4.out 0
   have hx_gb4_1 : w12.cell? ⟨gb4,1,none⟩ = some (.slice none 0 0):=(blk_cell BK4.out 1).trans rfl
   have hf_gb4_1:=blk_frozen BK4.out 1
   have hx_gb4_2 : w12.cell? ⟨gb4,2,none⟩ = some (.slice none 0 0):=(blk_cell BK4.out 2).trans rfl
   have hf_gb4_2:=blk_frozen BK4.out 2
   have hx_gb4_3 : w12.cell? ⟨gb4,3,none⟩ = some (.bool false):=(blk_cell BK4.out 3).trans rfl
   have hf_gb4_3:=blk_frozen BK4.out 3
   have hx_gb4_4 : w12.cell? ⟨gb4,4,none⟩ = some (.int .u64 0):=(blk_cell BK4.out 4).trans rfl
   have hf_gb4_4:=blk_frozen BK4.out 4
   go_wp2
   refine bodyPost_ret (results_ct rfl _ _ gb4 28 #[.int .u64 nx,.slice Ao l1.length co,.slice Ap l2.length cp,.bool true,.int .u64 e] (0,0) _ rfl (blk_put5 BK4.out) Try.underlying28 rfl (by kernel_rfl)) rfl ?_
   exact ⟨_,_,rfl,R_set5 O1.out BK4.out ne_sp,R_set5 O2.out BK4.out ne_by,below_set5 HB.out GE4.out⟩
 exact step en rfl
def gather_Put.lay (nx off : Int) (l2 : List Int) (d : List Int) (s : S41) : Option (List Int) :=
 if nx ≤ s.f0 ∧ off ≤ s.f0 ∧ s.f0 < s.f1 ∧ s.f1 - nx ≤ d.length ∧ s.f1 - off ≤ l2.length ∧ d.length < 2000000000 ∧ l2.length < 2000000000 then some (splice d (s.f0 - nx).toNat (gather_Put_1.seg l2 (s.f0 - off).toNat ((s.f1 - nx).toNat - (s.f0 - nx).toNat))) else none
def gather_Put.lays (nx off : Int) (l2 : List Int) : List Int → List S41 → Option (List Int)
 | d,[] => some d
 | d,s :: t => (gather_Put.lay nx off l2 d s).bind fun d2 => gather_Put.lays nx off l2 d2 t
def gather_Put.cuts : List S41 → List S41 → Option (List S41)
 | fr,[] => some fr
 | fr,s :: t => (span_Cut.f fr s.f0 s.f1).bind fun fr2 => gather_Put.cuts fr2 t
def gather_Put.grow (d : List Int) (m : Int) : List Int:=if m - d.length > 0 then d ++ List.replicate (m - d.length).toNat 0 else d
def gather_Put.body (k : Nat) (nx : Int) (l1 : List S41) (ld : List Int) (en : Bool) (sz off : Int) (l2 : List Int) (e : Int) : Option (Int × List S41 × List Int × Bool × Int × Int) :=
 if e ≤ mx off nx then some (nx,l1,ld,en,sz,0) else
 (gather_Put.cuts [(⟨mx off nx,e⟩ : S41)] l1).bind fun fr => if fr.length < 1000000 then (gather_Put.lays nx off l2 (gather_Put.grow ld (e - nx)) fr).bind fun d2 => (span_Add.f k l1 (mx off nx) e).bind fun k2 => some (nx,k2,d2,en,sz,0) else none
/-- Where bytes are taken: what they and the old ones are then. -/
def gather_Put.f (k : Nat) (a0_0 : Int) (l0_1 : List S41) (l0_2 : List Int) (a0_3 : Bool) (a0_4 : Int) (a1 : Int) (l2 : List Int) (a3 : Bool) : Option (Int × List S41 × List Int × Bool × Int × Int) :=
 if 0 ≤ a0_0 ∧ a0_0 ≤ 1048576 ∧ 0 ≤ a1 ∧ a1 + (l2.length : Int) ≤ 1048576 ∧ l0_1.length < 1000000 ∧ l0_2.length < 1000000000 then
  if a0_3 = true ∧ a0_4 < a1 + (l2.length : Int) then none
  else if a3 = true then (gather_High.f a0_0 l0_1 l0_2 a0_3 a0_4).bind fun hi => if (a0_3 = true ∧ a0_4 ≠ a1 + (l2.length : Int)) ∨ a1 + (l2.length : Int) < hi then none else gather_Put.body k a0_0 l0_1 l0_2 true (a1 + (l2.length : Int)) a1 l2 (a1 + (l2.length : Int))
  else gather_Put.body k a0_0 l0_1 l0_2 a0_3 a0_4 a1 l2 (a1 + (l2.length : Int))
 else none
theorem gather_Put.body_mono (k : Nat) (nx : Int) (l1 : List S41) (ld : List Int) (en : Bool) (sz off : Int) (l2 : List Int) (e : Int) : LeO (gather_Put.body k nx l1 ld en sz off l2 e) (gather_Put.body (k + 1) nx l1 ld en sz off l2 e):=by
 unfold gather_Put.body
 refine LeO.ite (LeO.refl _) (LeO.bind (LeO.refl _) (fun _ => LeO.ite (LeO.bind (LeO.refl _) (fun _ => LeO.bind (span_Add.mono _ _ _ _) (fun _ => LeO.refl _))) (LeO.none _)))
theorem gather_Put.mono : ∀ a0 a1 a2 a3 a4 a5 a6 a7 k,LeO (gather_Put.f k a0 a1 a2 a3 a4 a5 a6 a7) (gather_Put.f (k + 1) a0 a1 a2 a3 a4 a5 a6 a7):=by
 intro a0 a1 a2 a3 a4 a5 a6 a7 k
 unfold gather_Put.f
 refine LeO.ite (LeO.ite (LeO.none _) (LeO.ite (LeO.bind (LeO.refl _) (fun _ => LeO.ite (LeO.none _) (gather_Put.body_mono _ _ _ _ _ _ _ _ _))) (gather_Put.body_mono _ _ _ _ _ _ _ _ _))) (LeO.none _)
set_option maxHeartbeats 8000000 in
set_option maxRecDepth 100000 in
theorem gather_Put.ok (en fin en2 : Bool) (sz2 : Int) (k : Nat) (nx : Int) (A1 : Option Addr) (c1 : Nat) (l1 : List S41) (A2 : Option Addr) (c2 : Nat) (ld : List Int) (sz off : Int) (A3 : Option Addr) (c3 : Nat) (l2 : List Int) (hi e : Int) (r : Int × List S41 × List Int × Bool × Int × Int) (w : World)
  (hr1 : Kd.C k41 w A1 l1.length l1) (hc1 : l1.length ≤ c1) (hr2 : Kd.C (Kd.int .u8) w A2 ld.length ld) (hc2 : ld.length ≤ c2) (hr3 : Kd.C (Kd.int .u8) w A3 l2.length l2) (hc3 : l2.length ≤ c3)
  (n0 : 0 ≤ nx) (n1 : nx ≤ 1048576) (n2 : 0 ≤ off) (he : e = off + (l2.length : Int)) (n3 : e ≤ 1048576) (n4 : l1.length < 1000000) (n5 : ld.length < 1000000000) (q1 : en = true → e ≤ sz) (hH : gather_High.f nx l1 ld en sz = some hi) (q2 : fin = true → en = true → sz = e) (q3 : fin = true → hi ≤ e)
  (x1 : fin = true → en2 = true ∧ sz2 = e) (x2 : fin = false → en2 = en ∧ sz2 = sz)
  (h : gather_Put.body k nx l1 ld en2 sz2 off l2 e = some r) :
  Calls Try.prog 10 #[.agg #[.int .u64 nx,.slice A1 l1.length c1,.slice A2 ld.length c2,.bool en,.int .u64 sz],.int .u64 off,.slice A3 l2.length c3,.bool fin] w fun e9 w' => ∃ v1 v2 : Value,e9 = .returned (.tuple #[.agg #[.int .u64 r.1,v1,v2,.bool r.2.2.2.1,.int .u64 r.2.2.2.2.1],.int .i64 r.2.2.2.2.2]) ∧ Kd.R k41 41 w' w.heap.size (fun _ => True) v1 r.2.1 ∧ Kd.R (Kd.int .u8) 5 w' w.heap.size (fun _ => True) v2 r.2.2.1 ∧ Below w.heap.size w w':=by
 have HR1:=Aside0.mk hr1
 have HR2:=Aside0.mk hr2
 have HR3:=Aside0.mk hr3
 have HC1:=Aside0.mk hc1
 have HC2:=Aside0.mk hc2
 have HC3:=Aside0.mk hc3
 have HH:=Aside0.mk hH
 have HL1:=Aside0.mk (show l1.length < 1000000000 by omega)
 have HL2:=Aside0.mk n5
 have HO:=Aside0.mk (own_ok HL1.out n5 nx en sz)
 have HS : Aside0 (fin = true → en = true → sz = e):=⟨q2⟩
 have E2T:=Aside0.mk x1
 have E2F:=Aside0.mk x2
 have HB:=Aside0.mk (Below.refl w.heap.size w)
 have HN:=Aside0.mk (show 0 ≤ nx ∧ nx ≤ 1048576 ∧ 0 ≤ off ∧ e = off + (l2.length : Int) ∧ e ≤ 1048576 ∧ l1.length < 1000000 ∧ ld.length < 1000000000 from ⟨n0,n1,n2,he,n3,n4,n5⟩)
 have HF:=Aside0.mk h
 have t1 : decide (1048576 < off) = false:=decide_eq_false (by omega)
 have t2 : IntKind.u64.wrap (l2.length : Int) = (l2.length : Int):=by rw [IntKind.wrap_u64];omega
 have t3 : IntKind.u64.wrap (off + (l2.length : Int)) = e:=by rw [IntKind.wrap_u64];omega
 have t4 : decide (1048576 < e) = false:=decide_eq_false (by omega)
 have t5 : en = true → decide (sz < e) = false:=fun q => decide_eq_false (by have:=q1 q;omega)
 have HI : Aside0 (fin = true → hi ≤ e):=⟨q3⟩
 clear hr1 hr2 hr3 hc1 hc2 hc3 hH n0 n1 n2 he n3 n4 n5 q1 q2 q3 x1 x2 h
 go_enter Try.func10,Try.ntmps10
 go_upto_block 0 with (first
  | ((with_reducible refine gate_dst (N:=4) rfl ?_);refine box_event ?hg (N:=4) ?hd (cs:=#[.int .u64 nx,.slice A1 l1.length c1,.slice A2 ld.length c2,.bool en,.int .u64 sz]) (t:=28) ?hr ?_;(case hd => rfl);(case hg => rfl);(case hr => first | (go_simp;done) | (go_simp;rfl));intro g4 hg w4 hbox hb;have GE_g4:=Aside0.mk (show w.heap.size ≤ g4 by rw [hg];exact HB.out.size);have n1_:=Aside0.mk (below_step HB.out hb);clear HB;have HB:=n1_;clear n1_;have BK_g4:=Aside0.mk hbox;clear hbox hb hg)
  | ((with_reducible refine gate_dst (N:=5) rfl ?_);refine box_event ?hg (N:=5) ?hd (cs:=#[.int .u64 off]) (t:=25) ?hr ?_;(case hd => rfl);(case hg => rfl);(case hr => first | (go_simp;done) | (go_simp;rfl));intro g5 hg w5 hbox hb;have GE_g5:=Aside0.mk (show w.heap.size ≤ g5 by rw [hg];exact HB.out.size);have NB_g4_g5 : g4 ≠ g5:=(by rw [hg];exact Nat.ne_of_lt (blk_lt BK_g4.out));have NB_g5_g4:=NB_g4_g5.symm;have n2_:=Aside0.mk (below_step HB.out hb);have n3_:=Aside0.mk (blk_below BK_g4.out hb);clear HB BK_g4;have HB:=n2_;have BK_g4:=n3_;clear n2_ n3_;have BK_g5:=Aside0.mk hbox;clear hbox hb hg)
  | ((with_reducible refine gate_dst (N:=6) rfl ?_);refine box_event ?hg (N:=6) ?hd (cs:=#[.slice A3 l2.length c3]) (t:=23) ?hr ?_;(case hd => rfl);(case hg => rfl);(case hr => first | (go_simp;done) | (go_simp;rfl));intro g6 hg w6 hbox hb;have GE_g6:=Aside0.mk (show w.heap.size ≤ g6 by rw [hg];exact HB.out.size);have NB_g4_g6 : g4 ≠ g6:=(by rw [hg];exact Nat.ne_of_lt (blk_lt BK_g4.out));have NB_g6_g4:=NB_g4_g6.symm;have NB_g5_g6 : g5 ≠ g6:=(by rw [hg];exact Nat.ne_of_lt (blk_lt BK_g5.out));have NB_g6_g5:=NB_g5_g6.symm;have n4_:=Aside0.mk (below_step HB.out hb);have n5_:=Aside0.mk (blk_below BK_g4.out hb);have n6_:=Aside0.mk (blk_below BK_g5.out hb);clear HB BK_g4 BK_g5;have HB:=n4_;have BK_g4:=n5_;have BK_g5:=n6_;clear n4_ n5_ n6_;have BK_g6:=Aside0.mk hbox;clear hbox hb hg)
  | ((with_reducible refine gate_dst (N:=8) rfl ?_);refine box_event ?hg (N:=8) ?hd (cs:=#[.int .u64 0,.slice none 0 0,.slice none 0 0,.bool false,.int .u64 0]) (t:=28) ?hr ?_;(case hd => rfl);(case hg => rfl);(case hr => first | (go_simp;done) | (go_simp;rfl));intro g8 hg w8 hbox hb;have GE_g8:=Aside0.mk (show w.heap.size ≤ g8 by rw [hg];exact HB.out.size);have NB_g4_g8 : g4 ≠ g8:=(by rw [hg];exact Nat.ne_of_lt (blk_lt BK_g4.out));have NB_g8_g4:=NB_g4_g8.symm;have NB_g5_g8 : g5 ≠ g8:=(by rw [hg];exact Nat.ne_of_lt (blk_lt BK_g5.out));have NB_g8_g5:=NB_g5_g8.symm;have NB_g6_g8 : g6 ≠ g8:=(by rw [hg];exact Nat.ne_of_lt (blk_lt BK_g6.out));have NB_g8_g6:=NB_g6_g8.symm;have n7_:=Aside0.mk (below_step HB.out hb);have n8_:=Aside0.mk (blk_below BK_g4.out hb);have n9_:=Aside0.mk (blk_below BK_g5.out hb);have n10_:=Aside0.mk (blk_below BK_g6.out hb);clear HB BK_g4 BK_g5 BK_g6;have HB:=n7_;have BK_g4:=n8_;have BK_g5:=n9_;have BK_g6:=n10_;clear n7_ n8_ n9_ n10_;have BK_g8:=Aside0.mk hbox;clear hbox hb hg;have hx_g4_0 : w8.cell? ⟨g4,0,none⟩ = some (.int .u64 nx):=(blk_cell BK_g4.out 0).trans rfl;have hf_g4_0:=blk_frozen BK_g4.out 0;have hx_g4_1 : w8.cell? ⟨g4,1,none⟩ = some (.slice A1 l1.length c1):=(blk_cell BK_g4.out 1).trans rfl;have hf_g4_1:=blk_frozen BK_g4.out 1;have hx_g4_2 : w8.cell? ⟨g4,2,none⟩ = some (.slice A2 ld.length c2):=(blk_cell BK_g4.out 2).trans rfl;have hf_g4_2:=blk_frozen BK_g4.out 2;have hx_g4_3 : w8.cell? ⟨g4,3,none⟩ = some (.bool en):=(blk_cell BK_g4.out 3).trans rfl;have hf_g4_3:=blk_frozen BK_g4.out 3;have hx_g4_4 : w8.cell? ⟨g4,4,none⟩ = some (.int .u64 sz):=(blk_cell BK_g4.out 4).trans rfl;have hf_g4_4:=blk_frozen BK_g4.out 4;have hx_g5_0 : w8.cell? ⟨g5,0,none⟩ = some (.int .u64 off):=(blk_cell BK_g5.out 0).trans rfl;have hf_g5_0:=blk_frozen BK_g5.out 0;have hx_g6_0 : w8.cell? ⟨g6,0,none⟩ = some (.slice A3 l2.length c3):=(blk_cell BK_g6.out 0).trans rfl;have hf_g6_0:=blk_frozen BK_g6.out 0)
  | ((with_reducible refine gate_callee (f:=16) rfl ?_);refine goesL_ (some 38) rfl rfl Try.func16 (by kernel_rfl) rfl #[.agg #[.int .u64 nx,.slice A1 l1.length c1,.slice A2 ld.length c2,.bool en,.int .u64 sz]] rfl (by (try simp only [List.map_toArray,List.map_cons,List.map_nil]);first | done | rfl) ?_;(with_reducible refine (gather_own.calls nx _ _ l1 _ _ ld en sz nx l1 ld en sz _ (Kd.C_below HR1.out HB.out) HC1.out (Kd.C_below HR2.out HB.out) HC2.out HO.out).mono ?_);rintro e9 w9 ⟨v1,v2,rfl,ho1,ho2,hb⟩;refine ⟨_,rfl,?_⟩;clear hx_g4_0 hf_g4_0 hx_g4_1 hf_g4_1 hx_g4_2 hf_g4_2 hx_g4_3 hf_g4_3 hx_g4_4 hf_g4_4 hx_g5_0 hf_g5_0 hx_g6_0 hf_g6_0;have O1:=Aside0.mk (Kd.R_lower ho1 HB.out.size);have O2:=Aside0.mk (Kd.R_lower ho2 HB.out.size);clear ho1 ho2;have n11_:=Aside0.mk (below_step HB.out hb);have n12_:=Aside0.mk (blk_below BK_g4.out hb);have n13_:=Aside0.mk (blk_below BK_g5.out hb);have n14_:=Aside0.mk (blk_below BK_g6.out hb);have n15_:=Aside0.mk (blk_below BK_g8.out hb);clear HB BK_g4 BK_g5 BK_g6 BK_g8;have HB:=n11_;have BK_g4:=n12_;have BK_g5:=n13_;have BK_g6:=n14_;have BK_g8:=n15_;clear n11_ n12_ n13_ n14_ n15_;clear hb;obtain ⟨B1,d1,eo⟩:=Kd.R_slice O1.out;subst eo;obtain ⟨B2,d2,ep⟩:=Kd.R_slice O2.out;subst ep)
  | ((with_reducible refine gate_dst (N:=11) rfl ?_);refine box_event ?hg (N:=11) ?hd (cs:=#[.int .u64 0,.slice none 0 0,.slice none 0 0,.bool false,.int .u64 0]) (t:=28) ?hr ?_;(case hd => rfl);(case hg => rfl);(case hr => first | (go_simp;done) | (go_simp;rfl));intro g11 hg w11 hbox hb;have GE_g11:=Aside0.mk (show w.heap.size ≤ g11 by rw [hg];exact HB.out.size);have NB_g4_g11 : g4 ≠ g11:=(by rw [hg];exact Nat.ne_of_lt (blk_lt BK_g4.out));have NB_g11_g4:=NB_g4_g11.symm;have NB_g5_g11 : g5 ≠ g11:=(by rw [hg];exact Nat.ne_of_lt (blk_lt BK_g5.out));have NB_g11_g5:=NB_g5_g11.symm;have NB_g6_g11 : g6 ≠ g11:=(by rw [hg];exact Nat.ne_of_lt (blk_lt BK_g6.out));have NB_g11_g6:=NB_g6_g11.symm;have NB_g8_g11 : g8 ≠ g11:=(by rw [hg];exact Nat.ne_of_lt (blk_lt BK_g8.out));have NB_g11_g8:=NB_g8_g11.symm;have n16_:=Aside0.mk (below_step HB.out hb);have n17_:=Aside0.mk (blk_below BK_g4.out hb);have n18_:=Aside0.mk (blk_below BK_g5.out hb);have n19_:=Aside0.mk (blk_below BK_g6.out hb);have n20_:=Aside0.mk (blk_below BK_g8.out hb);have n21_:=Aside0.mk (Kd.R_below O1.out hb);have n22_:=Aside0.mk (Kd.R_below O2.out hb);clear HB BK_g4 BK_g5 BK_g6 BK_g8 O1 O2;have HB:=n16_;have BK_g4:=n17_;have BK_g5:=n18_;have BK_g6:=n19_;have BK_g8:=n20_;have O1:=n21_;have O2:=n22_;clear n16_ n17_ n18_ n19_ n20_ n21_ n22_;have BK_g11:=Aside0.mk hbox;clear hbox hb hg;have hx_g11_0 : w11.cell? ⟨g11,0,none⟩ = some (.int .u64 0):=(blk_cell BK_g11.out 0).trans rfl;have hf_g11_0:=blk_frozen BK_g11.out 0;have hx_g11_1 : w11.cell? ⟨g11,1,none⟩ = some (.slice none 0 0):=(blk_cell BK_g11.out 1).trans rfl;have hf_g11_1:=blk_frozen BK_g11.out 1;have hx_g11_2 : w11.cell? ⟨g11,2,none⟩ = some (.slice none 0 0):=(blk_cell BK_g11.out 2).trans rfl;have hf_g11_2:=blk_frozen BK_g11.out 2;have hx_g11_3 : w11.cell? ⟨g11,3,none⟩ = some (.bool false):=(blk_cell BK_g11.out 3).trans rfl;have hf_g11_3:=blk_frozen BK_g11.out 3;have hx_g11_4 : w11.cell? ⟨g11,4,none⟩ = some (.int .u64 0):=(blk_cell BK_g11.out 4).trans rfl;have hf_g11_4:=blk_frozen BK_g11.out 4))
 clear hx_g11_0 hf_g11_0 hx_g11_1 hf_g11_1 hx_g11_2 hf_g11_2 hx_g11_3 hf_g11_3 hx_g11_4 hf_g11_4
 have n23_ : Aside0 ((((((w11.setCell ⟨g11,0,none⟩ (.int .u64 nx)).setCell ⟨g11,1,none⟩ (.slice B1 l1.length d1)).setCell ⟨g11,2,none⟩ (.slice B2 ld.length d2)).setCell ⟨g11,3,none⟩ (.bool en)).setCell ⟨g11,4,none⟩ (.int .u64 sz)).heap[g11]? = some (.cells #[.int .u64 nx,.slice B1 l1.length d1,.slice B2 ld.length d2,.bool en,.int .u64 sz] 28 (0,0))):=⟨blk_put (blk_put (blk_put (blk_put (blk_put (BK_g11.out) 0 (.int .u64 nx) (cs':=#[.int .u64 nx,.slice none 0 0,.slice none 0 0,.bool false,.int .u64 0]) rfl) 1 (.slice B1 l1.length d1) (cs':=#[.int .u64 nx,.slice B1 l1.length d1,.slice none 0 0,.bool false,.int .u64 0]) rfl) 2 (.slice B2 ld.length d2) (cs':=#[.int .u64 nx,.slice B1 l1.length d1,.slice B2 ld.length d2,.bool false,.int .u64 0]) rfl) 3 (.bool en) (cs':=#[.int .u64 nx,.slice B1 l1.length d1,.slice B2 ld.length d2,.bool en,.int .u64 0]) rfl) 4 (.int .u64 sz) (cs':=#[.int .u64 nx,.slice B1 l1.length d1,.slice B2 ld.length d2,.bool en,.int .u64 sz]) rfl⟩
 have n24_ : Aside0 ((((((w11.setCell ⟨g11,0,none⟩ (.int .u64 nx)).setCell ⟨g11,1,none⟩ (.slice B1 l1.length d1)).setCell ⟨g11,2,none⟩ (.slice B2 ld.length d2)).setCell ⟨g11,3,none⟩ (.bool en)).setCell ⟨g11,4,none⟩ (.int .u64 sz)).heap[g4]? = some (.cells #[.int .u64 nx,.slice A1 l1.length c1,.slice A2 ld.length c2,.bool en,.int .u64 sz] 28 (0,0))):=⟨blk_far (p:=⟨g11,4,none⟩) (blk_far (p:=⟨g11,3,none⟩) (blk_far (p:=⟨g11,2,none⟩) (blk_far (p:=⟨g11,1,none⟩) (blk_far (p:=⟨g11,0,none⟩) (BK_g4.out) NB_g4_g11 (.int .u64 nx)) NB_g4_g11 (.slice B1 l1.length d1)) NB_g4_g11 (.slice B2 ld.length d2)) NB_g4_g11 (.bool en)) NB_g4_g11 (.int .u64 sz)⟩
 have n25_ : Aside0 ((((((w11.setCell ⟨g11,0,none⟩ (.int .u64 nx)).setCell ⟨g11,1,none⟩ (.slice B1 l1.length d1)).setCell ⟨g11,2,none⟩ (.slice B2 ld.length d2)).setCell ⟨g11,3,none⟩ (.bool en)).setCell ⟨g11,4,none⟩ (.int .u64 sz)).heap[g5]? = some (.cells #[.int .u64 off] 25 (0,0))):=⟨blk_far (p:=⟨g11,4,none⟩) (blk_far (p:=⟨g11,3,none⟩) (blk_far (p:=⟨g11,2,none⟩) (blk_far (p:=⟨g11,1,none⟩) (blk_far (p:=⟨g11,0,none⟩) (BK_g5.out) NB_g5_g11 (.int .u64 nx)) NB_g5_g11 (.slice B1 l1.length d1)) NB_g5_g11 (.slice B2 ld.length d2)) NB_g5_g11 (.bool en)) NB_g5_g11 (.int .u64 sz)⟩
 have n26_ : Aside0 ((((((w11.setCell ⟨g11,0,none⟩ (.int .u64 nx)).setCell ⟨g11,1,none⟩ (.slice B1 l1.length d1)).setCell ⟨g11,2,none⟩ (.slice B2 ld.length d2)).setCell ⟨g11,3,none⟩ (.bool en)).setCell ⟨g11,4,none⟩ (.int .u64 sz)).heap[g6]? = some (.cells #[.slice A3 l2.length c3] 23 (0,0))):=⟨blk_far (p:=⟨g11,4,none⟩) (blk_far (p:=⟨g11,3,none⟩) (blk_far (p:=⟨g11,2,none⟩) (blk_far (p:=⟨g11,1,none⟩) (blk_far (p:=⟨g11,0,none⟩) (BK_g6.out) NB_g6_g11 (.int .u64 nx)) NB_g6_g11 (.slice B1 l1.length d1)) NB_g6_g11 (.slice B2 ld.length d2)) NB_g6_g11 (.bool en)) NB_g6_g11 (.int .u64 sz)⟩
 have n27_ : Aside0 ((((((w11.setCell ⟨g11,0,none⟩ (.int .u64 nx)).setCell ⟨g11,1,none⟩ (.slice B1 l1.length d1)).setCell ⟨g11,2,none⟩ (.slice B2 ld.length d2)).setCell ⟨g11,3,none⟩ (.bool en)).setCell ⟨g11,4,none⟩ (.int .u64 sz)).heap[g8]? = some (.cells #[.int .u64 0,.slice none 0 0,.slice none 0 0,.bool false,.int .u64 0] 28 (0,0))):=⟨blk_far (p:=⟨g11,4,none⟩) (blk_far (p:=⟨g11,3,none⟩) (blk_far (p:=⟨g11,2,none⟩) (blk_far (p:=⟨g11,1,none⟩) (blk_far (p:=⟨g11,0,none⟩) (BK_g8.out) NB_g8_g11 (.int .u64 nx)) NB_g8_g11 (.slice B1 l1.length d1)) NB_g8_g11 (.slice B2 ld.length d2)) NB_g8_g11 (.bool en)) NB_g8_g11 (.int .u64 sz)⟩
 have n28_ : Aside0 (Kd.R k41 41 (((((w11.setCell ⟨g11,0,none⟩ (.int .u64 nx)).setCell ⟨g11,1,none⟩ (.slice B1 l1.length d1)).setCell ⟨g11,2,none⟩ (.slice B2 ld.length d2)).setCell ⟨g11,3,none⟩ (.bool en)).setCell ⟨g11,4,none⟩ (.int .u64 sz)) w.heap.size (fun _ => True) (.slice B1 l1.length d1) l1):=⟨Kd.R_mono (Kd.R_far (p:=⟨g11,4,none⟩) (Kd.R_far (p:=⟨g11,3,none⟩) (Kd.R_far (p:=⟨g11,2,none⟩) (Kd.R_far (p:=⟨g11,1,none⟩) (Kd.R_far (p:=⟨g11,0,none⟩) (Kd.R_types O1.out BK_g11.out ne_sp) (fun _ hk => hk.2) (.int .u64 nx)) (fun _ hk => hk.2) (.slice B1 l1.length d1)) (fun _ hk => hk.2) (.slice B2 ld.length d2)) (fun _ hk => hk.2) (.bool en)) (fun _ hk => hk.2) (.int .u64 sz)) (fun _ hk => hk.1)⟩
 have n29_ : Aside0 (Kd.R (Kd.int .u8) 5 (((((w11.setCell ⟨g11,0,none⟩ (.int .u64 nx)).setCell ⟨g11,1,none⟩ (.slice B1 l1.length d1)).setCell ⟨g11,2,none⟩ (.slice B2 ld.length d2)).setCell ⟨g11,3,none⟩ (.bool en)).setCell ⟨g11,4,none⟩ (.int .u64 sz)) w.heap.size (fun _ => True) (.slice B2 ld.length d2) ld):=⟨Kd.R_mono (Kd.R_far (p:=⟨g11,4,none⟩) (Kd.R_far (p:=⟨g11,3,none⟩) (Kd.R_far (p:=⟨g11,2,none⟩) (Kd.R_far (p:=⟨g11,1,none⟩) (Kd.R_far (p:=⟨g11,0,none⟩) (Kd.R_types O2.out BK_g11.out ne_by) (fun _ hk => hk.2) (.int .u64 nx)) (fun _ hk => hk.2) (.slice B1 l1.length d1)) (fun _ hk => hk.2) (.slice B2 ld.length d2)) (fun _ hk => hk.2) (.bool en)) (fun _ hk => hk.2) (.int .u64 sz)) (fun _ hk => hk.1)⟩
 have n30_ : Aside0 (Below w.heap.size w (((((w11.setCell ⟨g11,0,none⟩ (.int .u64 nx)).setCell ⟨g11,1,none⟩ (.slice B1 l1.length d1)).setCell ⟨g11,2,none⟩ (.slice B2 ld.length d2)).setCell ⟨g11,3,none⟩ (.bool en)).setCell ⟨g11,4,none⟩ (.int .u64 sz))):=⟨below_set (below_set (below_set (below_set (below_set (HB.out) GE_g11.out (j:=0) (v:=.int .u64 nx)) GE_g11.out (j:=1) (v:=.slice B1 l1.length d1)) GE_g11.out (j:=2) (v:=.slice B2 ld.length d2)) GE_g11.out (j:=3) (v:=.bool en)) GE_g11.out (j:=4) (v:=.int .u64 sz)⟩
 clear BK_g11 BK_g4 BK_g5 BK_g6 BK_g8 O1 O2 HB
 have BK_g11:=n23_
 have BK_g4:=n24_
 have BK_g5:=n25_
 have BK_g6:=n26_
 have BK_g8:=n27_
 have O1:=n28_
 have O2:=n29_
 have HB:=n30_
 clear n23_ n24_ n25_ n26_ n27_ n28_ n29_ n30_
 generalize (((((w11.setCell ⟨g11,0,none⟩ (.int .u64 nx)).setCell ⟨g11,1,none⟩ (.slice B1 l1.length d1)).setCell ⟨g11,2,none⟩ (.slice B2 ld.length d2)).setCell ⟨g11,3,none⟩ (.bool en)).setCell ⟨g11,4,none⟩ (.int .u64 sz)) = w12 at BK_g11 BK_g4 BK_g5 BK_g6 BK_g8 O1 O2 HB ⊢
 go_cut [] (fun wc => ∃ (vk vb : Value),Aside0 (wc.heap[g4]? = some (.cells #[.int .u64 nx,.slice A1 l1.length c1,.slice A2 ld.length c2,.bool en,.int .u64 sz] 28 (0,0))) ∧ Aside0 (wc.heap[g5]? = some (.cells #[.int .u64 off] 25 (0,0))) ∧ Aside0 (wc.heap[g6]? = some (.cells #[.slice A3 l2.length c3] 23 (0,0))) ∧ Aside0 (wc.heap[g8]? = some (.cells #[.int .u64 0,.slice none 0 0,.slice none 0 0,.bool false,.int .u64 0] 28 (0,0))) ∧ Aside0 (wc.heap[g11]? = some (.cells #[.int .u64 nx,vk,vb,.bool en2,.int .u64 sz2] 28 (0,0))) ∧ Aside0 (Kd.R k41 41 wc w.heap.size (fun _ => True) vk l1) ∧ Aside0 (Kd.R (Kd.int .u8) 5 wc w.heap.size (fun _ => True) vb ld) ∧ Aside0 (Below w.heap.size w wc))
 case first =>
  cases fin with
  | false =>
   obtain ⟨e1_,e2_⟩:=E2F.out rfl
   cases en with
   | false =>
    have hx_g4_0 : w12.cell? ⟨g4,0,none⟩ = some (.int .u64 nx):=(blk_cell BK_g4.out 0).trans rfl
    have hf_g4_0:=blk_frozen BK_g4.out 0
    have hx_g4_1 : w12.cell? ⟨g4,1,none⟩ = some (.slice A1 l1.length c1):=(blk_cell BK_g4.out 1).trans rfl
    have hf_g4_1:=blk_frozen BK_g4.out 1
    have hx_g4_2 : w12.cell? ⟨g4,2,none⟩ = some (.slice A2 ld.length c2):=(blk_cell BK_g4.out 2).trans rfl
    have hf_g4_2:=blk_frozen BK_g4.out 2
    have hx_g4_3 : w12.cell? ⟨g4,3,none⟩ = some (.bool false):=(blk_cell BK_g4.out 3).trans rfl
    have hf_g4_3:=blk_frozen BK_g4.out 3
    have hx_g4_4 : w12.cell? ⟨g4,4,none⟩ = some (.int .u64 sz):=(blk_cell BK_g4.out 4).trans rfl
    have hf_g4_4:=blk_frozen BK_g4.out 4
    have hx_g11_0 : w12.cell? ⟨g11,0,none⟩ = some (.int .u64 nx):=(blk_cell BK_g11.out 0).trans rfl
    have hf_g11_0:=blk_frozen BK_g11.out 0
    have hx_g11_1 : w12.cell? ⟨g11,1,none⟩ = some (.slice B1 l1.length d1):=(blk_cell BK_g11.out 1).trans rfl
    have hf_g11_1:=blk_frozen BK_g11.out 1
    have hx_g11_2 : w12.cell? ⟨g11,2,none⟩ = some (.slice B2 ld.length d2):=(blk_cell BK_g11.out 2).trans rfl
    have hf_g11_2:=blk_frozen BK_g11.out 2
    have hx_g11_3 : w12.cell? ⟨g11,3,none⟩ = some (.bool false):=(blk_cell BK_g11.out 3).trans rfl
    have hf_g11_3:=blk_frozen BK_g11.out 3
    have hx_g11_4 : w12.cell? ⟨g11,4,none⟩ = some (.int .u64 sz):=(blk_cell BK_g11.out 4).trans rfl
    have hf_g11_4:=blk_frozen BK_g11.out 4
    go_wp2
    go_meet
    case rel => exact ⟨_,_,BK_g4,BK_g5,BK_g6,BK_g8,by rw [e1_,e2_];exact BK_g11,O1,O2,HB⟩
   | true =>
    have t5:=t5 rfl
    have hx_g4_0 : w12.cell? ⟨g4,0,none⟩ = some (.int .u64 nx):=(blk_cell BK_g4.out 0).trans rfl
    have hf_g4_0:=blk_frozen BK_g4.out 0
    have hx_g4_1 : w12.cell? ⟨g4,1,none⟩ = some (.slice A1 l1.length c1):=(blk_cell BK_g4.out 1).trans rfl
    have hf_g4_1:=blk_frozen BK_g4.out 1
    have hx_g4_2 : w12.cell? ⟨g4,2,none⟩ = some (.slice A2 ld.length c2):=(blk_cell BK_g4.out 2).trans rfl
    have hf_g4_2:=blk_frozen BK_g4.out 2
    have hx_g4_3 : w12.cell? ⟨g4,3,none⟩ = some (.bool true):=(blk_cell BK_g4.out 3).trans rfl
    have hf_g4_3:=blk_frozen BK_g4.out 3
    have hx_g4_4 : w12.cell? ⟨g4,4,none⟩ = some (.int .u64 sz):=(blk_cell BK_g4.out 4).trans rfl
    have hf_g4_4:=blk_frozen BK_g4.out 4
    have hx_g11_0 : w12.cell? ⟨g11,0,none⟩ = some (.int .u64 nx):=(blk_cell BK_g11.out 0).trans rfl
    have hf_g11_0:=blk_frozen BK_g11.out 0
    have hx_g11_1 : w12.cell? ⟨g11,1,none⟩ = some (.slice B1 l1.length d1):=(blk_cell BK_g11.out 1).trans rfl
    have hf_g11_1:=blk_frozen BK_g11.out 1
    have hx_g11_2 : w12.cell? ⟨g11,2,none⟩ = some (.slice B2 ld.length d2):=(blk_cell BK_g11.out 2).trans rfl
    have hf_g11_2:=blk_frozen BK_g11.out 2
    have hx_g11_3 : w12.cell? ⟨g11,3,none⟩ = some (.bool true):=(blk_cell BK_g11.out 3).trans rfl
    have hf_g11_3:=blk_frozen BK_g11.out 3
    have hx_g11_4 : w12.cell? ⟨g11,4,none⟩ = some (.int .u64 sz):=(blk_cell BK_g11.out 4).trans rfl
    have hf_g11_4:=blk_frozen BK_g11.out 4
    go_wp2
    go_meet
    case rel => exact ⟨_,_,BK_g4,BK_g5,BK_g6,BK_g8,by rw [e1_,e2_];exact BK_g11,O1,O2,HB⟩
  | true =>
   obtain ⟨e1_,e2_⟩:=E2T.out rfl
   cases en with
   | false =>
    have hx_g4_0 : w12.cell? ⟨g4,0,none⟩ = some (.int .u64 nx):=(blk_cell BK_g4.out 0).trans rfl
    have hf_g4_0:=blk_frozen BK_g4.out 0
    have hx_g4_1 : w12.cell? ⟨g4,1,none⟩ = some (.slice A1 l1.length c1):=(blk_cell BK_g4.out 1).trans rfl
    have hf_g4_1:=blk_frozen BK_g4.out 1
    have hx_g4_2 : w12.cell? ⟨g4,2,none⟩ = some (.slice A2 ld.length c2):=(blk_cell BK_g4.out 2).trans rfl
    have hf_g4_2:=blk_frozen BK_g4.out 2
    have hx_g4_3 : w12.cell? ⟨g4,3,none⟩ = some (.bool false):=(blk_cell BK_g4.out 3).trans rfl
    have hf_g4_3:=blk_frozen BK_g4.out 3
    have hx_g4_4 : w12.cell? ⟨g4,4,none⟩ = some (.int .u64 sz):=(blk_cell BK_g4.out 4).trans rfl
    have hf_g4_4:=blk_frozen BK_g4.out 4
    have hx_g11_0 : w12.cell? ⟨g11,0,none⟩ = some (.int .u64 nx):=(blk_cell BK_g11.out 0).trans rfl
    have hf_g11_0:=blk_frozen BK_g11.out 0
    have hx_g11_1 : w12.cell? ⟨g11,1,none⟩ = some (.slice B1 l1.length d1):=(blk_cell BK_g11.out 1).trans rfl
    have hf_g11_1:=blk_frozen BK_g11.out 1
    have hx_g11_2 : w12.cell? ⟨g11,2,none⟩ = some (.slice B2 ld.length d2):=(blk_cell BK_g11.out 2).trans rfl
    have hf_g11_2:=blk_frozen BK_g11.out 2
    have hx_g11_3 : w12.cell? ⟨g11,3,none⟩ = some (.bool false):=(blk_cell BK_g11.out 3).trans rfl
    have hf_g11_3:=blk_frozen BK_g11.out 3
    have hx_g11_4 : w12.cell? ⟨g11,4,none⟩ = some (.int .u64 sz):=(blk_cell BK_g11.out 4).trans rfl
    have hf_g11_4:=blk_frozen BK_g11.out 4
    go_upto_region 9 with ((with_reducible refine gate_callee (f:=13) rfl ?_);refine goesL_ (some 54) rfl rfl Try.func13 (by kernel_rfl) rfl #[.agg #[.int .u64 nx,.slice A1 l1.length c1,.slice A2 ld.length c2,.bool false,.int .u64 sz],.int .u64 e] rfl (by (try simp only [List.map_toArray,List.map_cons,List.map_nil]);first | done | rfl) ?_;(with_reducible refine (gather_Size.ok nx _ _ l1 _ _ ld false sz e hi _ (Kd.C_below HR1.out HB.out) HC1.out (Kd.C_below HR2.out HB.out) HC2.out HH.out (HS.out rfl) (HI.out rfl) HL1.out HL2.out).mono ?_);clear O1 O2;rintro e9 w13 ⟨v3,v4,rfl,ho1,ho2,hb⟩;refine ⟨_,rfl,?_⟩;clear hx_g4_0 hf_g4_0 hx_g4_1 hf_g4_1 hx_g4_2 hf_g4_2 hx_g4_3 hf_g4_3 hx_g4_4 hf_g4_4 hx_g11_0 hf_g11_0 hx_g11_1 hf_g11_1 hx_g11_2 hf_g11_2 hx_g11_3 hf_g11_3 hx_g11_4 hf_g11_4;have O1:=Aside0.mk (Kd.R_lower ho1 HB.out.size);have O2:=Aside0.mk (Kd.R_lower ho2 HB.out.size);clear ho1 ho2;have n31_:=Aside0.mk (below_step HB.out hb);have n32_:=Aside0.mk (blk_below BK_g4.out hb);have n33_:=Aside0.mk (blk_below BK_g5.out hb);have n34_:=Aside0.mk (blk_below BK_g6.out hb);have n35_:=Aside0.mk (blk_below BK_g8.out hb);have n36_:=Aside0.mk (blk_below BK_g11.out hb);clear HB BK_g4 BK_g5 BK_g6 BK_g8 BK_g11;have HB:=n31_;have BK_g4:=n32_;have BK_g5:=n33_;have BK_g6:=n34_;have BK_g8:=n35_;have BK_g11:=n36_;clear n31_ n32_ n33_ n34_ n35_ n36_;clear hb;obtain ⟨B3,d3,eo⟩:=Kd.R_slice O1.out;subst eo;obtain ⟨B4,d4,ep⟩:=Kd.R_slice O2.out;subst ep;have hx_g11_0 : w13.cell? ⟨g11,0,none⟩ = some (.int .u64 nx):=(blk_cell BK_g11.out 0).trans rfl;have hf_g11_0:=blk_frozen BK_g11.out 0;have hx_g11_1 : w13.cell? ⟨g11,1,none⟩ = some (.slice B1 l1.length d1):=(blk_cell BK_g11.out 1).trans rfl;have hf_g11_1:=blk_frozen BK_g11.out 1;have hx_g11_2 : w13.cell? ⟨g11,2,none⟩ = some (.slice B2 ld.length d2):=(blk_cell BK_g11.out 2).trans rfl;have hf_g11_2:=blk_frozen BK_g11.out 2;have hx_g11_3 : w13.cell? ⟨g11,3,none⟩ = some (.bool false):=(blk_cell BK_g11.out 3).trans rfl;have hf_g11_3:=blk_frozen BK_g11.out 3;have hx_g11_4 : w13.cell? ⟨g11,4,none⟩ = some (.int .u64 sz):=(blk_cell BK_g11.out 4).trans rfl;have hf_g11_4:=blk_frozen BK_g11.out 4)
    clear hx_g11_0 hf_g11_0 hx_g11_1 hf_g11_1 hx_g11_2 hf_g11_2 hx_g11_3 hf_g11_3 hx_g11_4 hf_g11_4
    have n37_ : Aside0 ((((((w13.setCell ⟨g11,0,none⟩ (.int .u64 nx)).setCell ⟨g11,1,none⟩ (.slice B3 l1.length d3)).setCell ⟨g11,2,none⟩ (.slice B4 ld.length d4)).setCell ⟨g11,3,none⟩ (.bool true)).setCell ⟨g11,4,none⟩ (.int .u64 e)).heap[g11]? = some (.cells #[.int .u64 nx,.slice B3 l1.length d3,.slice B4 ld.length d4,.bool true,.int .u64 e] 28 (0,0))):=⟨blk_put (blk_put (blk_put (blk_put (blk_put (BK_g11.out) 0 (.int .u64 nx) (cs':=#[.int .u64 nx,.slice B1 l1.length d1,.slice B2 ld.length d2,.bool false,.int .u64 sz]) rfl) 1 (.slice B3 l1.length d3) (cs':=#[.int .u64 nx,.slice B3 l1.length d3,.slice B2 ld.length d2,.bool false,.int .u64 sz]) rfl) 2 (.slice B4 ld.length d4) (cs':=#[.int .u64 nx,.slice B3 l1.length d3,.slice B4 ld.length d4,.bool false,.int .u64 sz]) rfl) 3 (.bool true) (cs':=#[.int .u64 nx,.slice B3 l1.length d3,.slice B4 ld.length d4,.bool true,.int .u64 sz]) rfl) 4 (.int .u64 e) (cs':=#[.int .u64 nx,.slice B3 l1.length d3,.slice B4 ld.length d4,.bool true,.int .u64 e]) rfl⟩
    have n38_ : Aside0 ((((((w13.setCell ⟨g11,0,none⟩ (.int .u64 nx)).setCell ⟨g11,1,none⟩ (.slice B3 l1.length d3)).setCell ⟨g11,2,none⟩ (.slice B4 ld.length d4)).setCell ⟨g11,3,none⟩ (.bool true)).setCell ⟨g11,4,none⟩ (.int .u64 e)).heap[g4]? = some (.cells #[.int .u64 nx,.slice A1 l1.length c1,.slice A2 ld.length c2,.bool false,.int .u64 sz] 28 (0,0))):=⟨blk_far (p:=⟨g11,4,none⟩) (blk_far (p:=⟨g11,3,none⟩) (blk_far (p:=⟨g11,2,none⟩) (blk_far (p:=⟨g11,1,none⟩) (blk_far (p:=⟨g11,0,none⟩) (BK_g4.out) NB_g4_g11 (.int .u64 nx)) NB_g4_g11 (.slice B3 l1.length d3)) NB_g4_g11 (.slice B4 ld.length d4)) NB_g4_g11 (.bool true)) NB_g4_g11 (.int .u64 e)⟩
    have n39_ : Aside0 ((((((w13.setCell ⟨g11,0,none⟩ (.int .u64 nx)).setCell ⟨g11,1,none⟩ (.slice B3 l1.length d3)).setCell ⟨g11,2,none⟩ (.slice B4 ld.length d4)).setCell ⟨g11,3,none⟩ (.bool true)).setCell ⟨g11,4,none⟩ (.int .u64 e)).heap[g5]? = some (.cells #[.int .u64 off] 25 (0,0))):=⟨blk_far (p:=⟨g11,4,none⟩) (blk_far (p:=⟨g11,3,none⟩) (blk_far (p:=⟨g11,2,none⟩) (blk_far (p:=⟨g11,1,none⟩) (blk_far (p:=⟨g11,0,none⟩) (BK_g5.out) NB_g5_g11 (.int .u64 nx)) NB_g5_g11 (.slice B3 l1.length d3)) NB_g5_g11 (.slice B4 ld.length d4)) NB_g5_g11 (.bool true)) NB_g5_g11 (.int .u64 e)⟩
    have n40_ : Aside0 ((((((w13.setCell ⟨g11,0,none⟩ (.int .u64 nx)).setCell ⟨g11,1,none⟩ (.slice B3 l1.length d3)).setCell ⟨g11,2,none⟩ (.slice B4 ld.length d4)).setCell ⟨g11,3,none⟩ (.bool true)).setCell ⟨g11,4,none⟩ (.int .u64 e)).heap[g6]? = some (.cells #[.slice A3 l2.length c3] 23 (0,0))):=⟨blk_far (p:=⟨g11,4,none⟩) (blk_far (p:=⟨g11,3,none⟩) (blk_far (p:=⟨g11,2,none⟩) (blk_far (p:=⟨g11,1,none⟩) (blk_far (p:=⟨g11,0,none⟩) (BK_g6.out) NB_g6_g11 (.int .u64 nx)) NB_g6_g11 (.slice B3 l1.length d3)) NB_g6_g11 (.slice B4 ld.length d4)) NB_g6_g11 (.bool true)) NB_g6_g11 (.int .u64 e)⟩
    have n41_ : Aside0 ((((((w13.setCell ⟨g11,0,none⟩ (.int .u64 nx)).setCell ⟨g11,1,none⟩ (.slice B3 l1.length d3)).setCell ⟨g11,2,none⟩ (.slice B4 ld.length d4)).setCell ⟨g11,3,none⟩ (.bool true)).setCell ⟨g11,4,none⟩ (.int .u64 e)).heap[g8]? = some (.cells #[.int .u64 0,.slice none 0 0,.slice none 0 0,.bool false,.int .u64 0] 28 (0,0))):=⟨blk_far (p:=⟨g11,4,none⟩) (blk_far (p:=⟨g11,3,none⟩) (blk_far (p:=⟨g11,2,none⟩) (blk_far (p:=⟨g11,1,none⟩) (blk_far (p:=⟨g11,0,none⟩) (BK_g8.out) NB_g8_g11 (.int .u64 nx)) NB_g8_g11 (.slice B3 l1.length d3)) NB_g8_g11 (.slice B4 ld.length d4)) NB_g8_g11 (.bool true)) NB_g8_g11 (.int .u64 e)⟩
    have n42_ : Aside0 (Kd.R k41 41 (((((w13.setCell ⟨g11,0,none⟩ (.int .u64 nx)).setCell ⟨g11,1,none⟩ (.slice B3 l1.length d3)).setCell ⟨g11,2,none⟩ (.slice B4 ld.length d4)).setCell ⟨g11,3,none⟩ (.bool true)).setCell ⟨g11,4,none⟩ (.int .u64 e)) w.heap.size (fun _ => True) (.slice B3 l1.length d3) l1):=⟨Kd.R_mono (Kd.R_far (p:=⟨g11,4,none⟩) (Kd.R_far (p:=⟨g11,3,none⟩) (Kd.R_far (p:=⟨g11,2,none⟩) (Kd.R_far (p:=⟨g11,1,none⟩) (Kd.R_far (p:=⟨g11,0,none⟩) (Kd.R_types O1.out BK_g11.out ne_sp) (fun _ hk => hk.2) (.int .u64 nx)) (fun _ hk => hk.2) (.slice B3 l1.length d3)) (fun _ hk => hk.2) (.slice B4 ld.length d4)) (fun _ hk => hk.2) (.bool true)) (fun _ hk => hk.2) (.int .u64 e)) (fun _ hk => hk.1)⟩
    have n43_ : Aside0 (Kd.R (Kd.int .u8) 5 (((((w13.setCell ⟨g11,0,none⟩ (.int .u64 nx)).setCell ⟨g11,1,none⟩ (.slice B3 l1.length d3)).setCell ⟨g11,2,none⟩ (.slice B4 ld.length d4)).setCell ⟨g11,3,none⟩ (.bool true)).setCell ⟨g11,4,none⟩ (.int .u64 e)) w.heap.size (fun _ => True) (.slice B4 ld.length d4) ld):=⟨Kd.R_mono (Kd.R_far (p:=⟨g11,4,none⟩) (Kd.R_far (p:=⟨g11,3,none⟩) (Kd.R_far (p:=⟨g11,2,none⟩) (Kd.R_far (p:=⟨g11,1,none⟩) (Kd.R_far (p:=⟨g11,0,none⟩) (Kd.R_types O2.out BK_g11.out ne_by) (fun _ hk => hk.2) (.int .u64 nx)) (fun _ hk => hk.2) (.slice B3 l1.length d3)) (fun _ hk => hk.2) (.slice B4 ld.length d4)) (fun _ hk => hk.2) (.bool true)) (fun _ hk => hk.2) (.int .u64 e)) (fun _ hk => hk.1)⟩
    have n44_ : Aside0 (Below w.heap.size w (((((w13.setCell ⟨g11,0,none⟩ (.int .u64 nx)).setCell ⟨g11,1,none⟩ (.slice B3 l1.length d3)).setCell ⟨g11,2,none⟩ (.slice B4 ld.length d4)).setCell ⟨g11,3,none⟩ (.bool true)).setCell ⟨g11,4,none⟩ (.int .u64 e))):=⟨below_set (below_set (below_set (below_set (below_set (HB.out) GE_g11.out (j:=0) (v:=.int .u64 nx)) GE_g11.out (j:=1) (v:=.slice B3 l1.length d3)) GE_g11.out (j:=2) (v:=.slice B4 ld.length d4)) GE_g11.out (j:=3) (v:=.bool true)) GE_g11.out (j:=4) (v:=.int .u64 e)⟩
    clear BK_g11 BK_g4 BK_g5 BK_g6 BK_g8 O1 O2 HB
    have BK_g11:=n37_
    have BK_g4:=n38_
    have BK_g5:=n39_
    have BK_g6:=n40_
    have BK_g8:=n41_
    have O1:=n42_
    have O2:=n43_
    have HB:=n44_
    clear n37_ n38_ n39_ n40_ n41_ n42_ n43_ n44_
    generalize (((((w13.setCell ⟨g11,0,none⟩ (.int .u64 nx)).setCell ⟨g11,1,none⟩ (.slice B3 l1.length d3)).setCell ⟨g11,2,none⟩ (.slice B4 ld.length d4)).setCell ⟨g11,3,none⟩ (.bool true)).setCell ⟨g11,4,none⟩ (.int .u64 e)) = w14 at BK_g11 BK_g4 BK_g5 BK_g6 BK_g8 O1 O2 HB ⊢
    go_wp2
    go_meet
    case rel => exact ⟨_,_,BK_g4,BK_g5,BK_g6,BK_g8,by rw [e1_,e2_];exact BK_g11,O1,O2,HB⟩
   | true =>
    have t5:=t5 rfl
    have hx_g4_0 : w12.cell? ⟨g4,0,none⟩ = some (.int .u64 nx):=(blk_cell BK_g4.out 0).trans rfl
    have hf_g4_0:=blk_frozen BK_g4.out 0
    have hx_g4_1 : w12.cell? ⟨g4,1,none⟩ = some (.slice A1 l1.length c1):=(blk_cell BK_g4.out 1).trans rfl
    have hf_g4_1:=blk_frozen BK_g4.out 1
    have hx_g4_2 : w12.cell? ⟨g4,2,none⟩ = some (.slice A2 ld.length c2):=(blk_cell BK_g4.out 2).trans rfl
    have hf_g4_2:=blk_frozen BK_g4.out 2
    have hx_g4_3 : w12.cell? ⟨g4,3,none⟩ = some (.bool true):=(blk_cell BK_g4.out 3).trans rfl
    have hf_g4_3:=blk_frozen BK_g4.out 3
    have hx_g4_4 : w12.cell? ⟨g4,4,none⟩ = some (.int .u64 sz):=(blk_cell BK_g4.out 4).trans rfl
    have hf_g4_4:=blk_frozen BK_g4.out 4
    have hx_g11_0 : w12.cell? ⟨g11,0,none⟩ = some (.int .u64 nx):=(blk_cell BK_g11.out 0).trans rfl
    have hf_g11_0:=blk_frozen BK_g11.out 0
    have hx_g11_1 : w12.cell? ⟨g11,1,none⟩ = some (.slice B1 l1.length d1):=(blk_cell BK_g11.out 1).trans rfl
    have hf_g11_1:=blk_frozen BK_g11.out 1
    have hx_g11_2 : w12.cell? ⟨g11,2,none⟩ = some (.slice B2 ld.length d2):=(blk_cell BK_g11.out 2).trans rfl
    have hf_g11_2:=blk_frozen BK_g11.out 2
    have hx_g11_3 : w12.cell? ⟨g11,3,none⟩ = some (.bool true):=(blk_cell BK_g11.out 3).trans rfl
    have hf_g11_3:=blk_frozen BK_g11.out 3
    have hx_g11_4 : w12.cell? ⟨g11,4,none⟩ = some (.int .u64 sz):=(blk_cell BK_g11.out 4).trans rfl
    have hf_g11_4:=blk_frozen BK_g11.out 4
    go_upto_region 9 with ((with_reducible refine gate_callee (f:=13) rfl ?_);refine goesL_ (some 54) rfl rfl Try.func13 (by kernel_rfl) rfl #[.agg #[.int .u64 nx,.slice A1 l1.length c1,.slice A2 ld.length c2,.bool true,.int .u64 sz],.int .u64 e] rfl (by (try simp only [List.map_toArray,List.map_cons,List.map_nil]);first | done | rfl) ?_;(with_reducible refine (gather_Size.ok nx _ _ l1 _ _ ld true sz e hi _ (Kd.C_below HR1.out HB.out) HC1.out (Kd.C_below HR2.out HB.out) HC2.out HH.out (HS.out rfl) (HI.out rfl) HL1.out HL2.out).mono ?_);clear O1 O2;rintro e9 w13 ⟨v3,v4,rfl,ho1,ho2,hb⟩;refine ⟨_,rfl,?_⟩;clear hx_g4_0 hf_g4_0 hx_g4_1 hf_g4_1 hx_g4_2 hf_g4_2 hx_g4_3 hf_g4_3 hx_g4_4 hf_g4_4 hx_g11_0 hf_g11_0 hx_g11_1 hf_g11_1 hx_g11_2 hf_g11_2 hx_g11_3 hf_g11_3 hx_g11_4 hf_g11_4;have O1:=Aside0.mk (Kd.R_lower ho1 HB.out.size);have O2:=Aside0.mk (Kd.R_lower ho2 HB.out.size);clear ho1 ho2;have n31_:=Aside0.mk (below_step HB.out hb);have n32_:=Aside0.mk (blk_below BK_g4.out hb);have n33_:=Aside0.mk (blk_below BK_g5.out hb);have n34_:=Aside0.mk (blk_below BK_g6.out hb);have n35_:=Aside0.mk (blk_below BK_g8.out hb);have n36_:=Aside0.mk (blk_below BK_g11.out hb);clear HB BK_g4 BK_g5 BK_g6 BK_g8 BK_g11;have HB:=n31_;have BK_g4:=n32_;have BK_g5:=n33_;have BK_g6:=n34_;have BK_g8:=n35_;have BK_g11:=n36_;clear n31_ n32_ n33_ n34_ n35_ n36_;clear hb;obtain ⟨B3,d3,eo⟩:=Kd.R_slice O1.out;subst eo;obtain ⟨B4,d4,ep⟩:=Kd.R_slice O2.out;subst ep;have hx_g11_0 : w13.cell? ⟨g11,0,none⟩ = some (.int .u64 nx):=(blk_cell BK_g11.out 0).trans rfl;have hf_g11_0:=blk_frozen BK_g11.out 0;have hx_g11_1 : w13.cell? ⟨g11,1,none⟩ = some (.slice B1 l1.length d1):=(blk_cell BK_g11.out 1).trans rfl;have hf_g11_1:=blk_frozen BK_g11.out 1;have hx_g11_2 : w13.cell? ⟨g11,2,none⟩ = some (.slice B2 ld.length d2):=(blk_cell BK_g11.out 2).trans rfl;have hf_g11_2:=blk_frozen BK_g11.out 2;have hx_g11_3 : w13.cell? ⟨g11,3,none⟩ = some (.bool true):=(blk_cell BK_g11.out 3).trans rfl;have hf_g11_3:=blk_frozen BK_g11.out 3;have hx_g11_4 : w13.cell? ⟨g11,4,none⟩ = some (.int .u64 sz):=(blk_cell BK_g11.out 4).trans rfl;have hf_g11_4:=blk_frozen BK_g11.out 4)
    clear hx_g11_0 hf_g11_0 hx_g11_1 hf_g11_1 hx_g11_2 hf_g11_2 hx_g11_3 hf_g11_3 hx_g11_4 hf_g11_4
    have n37_ : Aside0 ((((((w13.setCell ⟨g11,0,none⟩ (.int .u64 nx)).setCell ⟨g11,1,none⟩ (.slice B3 l1.length d3)).setCell ⟨g11,2,none⟩ (.slice B4 ld.length d4)).setCell ⟨g11,3,none⟩ (.bool true)).setCell ⟨g11,4,none⟩ (.int .u64 e)).heap[g11]? = some (.cells #[.int .u64 nx,.slice B3 l1.length d3,.slice B4 ld.length d4,.bool true,.int .u64 e] 28 (0,0))):=⟨blk_put (blk_put (blk_put (blk_put (blk_put (BK_g11.out) 0 (.int .u64 nx) (cs':=#[.int .u64 nx,.slice B1 l1.length d1,.slice B2 ld.length d2,.bool true,.int .u64 sz]) rfl) 1 (.slice B3 l1.length d3) (cs':=#[.int .u64 nx,.slice B3 l1.length d3,.slice B2 ld.length d2,.bool true,.int .u64 sz]) rfl) 2 (.slice B4 ld.length d4) (cs':=#[.int .u64 nx,.slice B3 l1.length d3,.slice B4 ld.length d4,.bool true,.int .u64 sz]) rfl) 3 (.bool true) (cs':=#[.int .u64 nx,.slice B3 l1.length d3,.slice B4 ld.length d4,.bool true,.int .u64 sz]) rfl) 4 (.int .u64 e) (cs':=#[.int .u64 nx,.slice B3 l1.length d3,.slice B4 ld.length d4,.bool true,.int .u64 e]) rfl⟩
    have n38_ : Aside0 ((((((w13.setCell ⟨g11,0,none⟩ (.int .u64 nx)).setCell ⟨g11,1,none⟩ (.slice B3 l1.length d3)).setCell ⟨g11,2,none⟩ (.slice B4 ld.length d4)).setCell ⟨g11,3,none⟩ (.bool true)).setCell ⟨g11,4,none⟩ (.int .u64 e)).heap[g4]? = some (.cells #[.int .u64 nx,.slice A1 l1.length c1,.slice A2 ld.length c2,.bool true,.int .u64 sz] 28 (0,0))):=⟨blk_far (p:=⟨g11,4,none⟩) (blk_far (p:=⟨g11,3,none⟩) (blk_far (p:=⟨g11,2,none⟩) (blk_far (p:=⟨g11,1,none⟩) (blk_far (p:=⟨g11,0,none⟩) (BK_g4.out) NB_g4_g11 (.int .u64 nx)) NB_g4_g11 (.slice B3 l1.length d3)) NB_g4_g11 (.slice B4 ld.length d4)) NB_g4_g11 (.bool true)) NB_g4_g11 (.int .u64 e)⟩
    have n39_ : Aside0 ((((((w13.setCell ⟨g11,0,none⟩ (.int .u64 nx)).setCell ⟨g11,1,none⟩ (.slice B3 l1.length d3)).setCell ⟨g11,2,none⟩ (.slice B4 ld.length d4)).setCell ⟨g11,3,none⟩ (.bool true)).setCell ⟨g11,4,none⟩ (.int .u64 e)).heap[g5]? = some (.cells #[.int .u64 off] 25 (0,0))):=⟨blk_far (p:=⟨g11,4,none⟩) (blk_far (p:=⟨g11,3,none⟩) (blk_far (p:=⟨g11,2,none⟩) (blk_far (p:=⟨g11,1,none⟩) (blk_far (p:=⟨g11,0,none⟩) (BK_g5.out) NB_g5_g11 (.int .u64 nx)) NB_g5_g11 (.slice B3 l1.length d3)) NB_g5_g11 (.slice B4 ld.length d4)) NB_g5_g11 (.bool true)) NB_g5_g11 (.int .u64 e)⟩
    have n40_ : Aside0 ((((((w13.setCell ⟨g11,0,none⟩ (.int .u64 nx)).setCell ⟨g11,1,none⟩ (.slice B3 l1.length d3)).setCell ⟨g11,2,none⟩ (.slice B4 ld.length d4)).setCell ⟨g11,3,none⟩ (.bool true)).setCell ⟨g11,4,none⟩ (.int .u64 e)).heap[g6]? = some (.cells #[.slice A3 l2.length c3] 23 (0,0))):=⟨blk_far (p:=⟨g11,4,none⟩) (blk_far (p:=⟨g11,3,none⟩) (blk_far (p:=⟨g11,2,none⟩) (blk_far (p:=⟨g11,1,none⟩) (blk_far (p:=⟨g11,0,none⟩) (BK_g6.out) NB_g6_g11 (.int .u64 nx)) NB_g6_g11 (.slice B3 l1.length d3)) NB_g6_g11 (.slice B4 ld.length d4)) NB_g6_g11 (.bool true)) NB_g6_g11 (.int .u64 e)⟩
    have n41_ : Aside0 ((((((w13.setCell ⟨g11,0,none⟩ (.int .u64 nx)).setCell ⟨g11,1,none⟩ (.slice B3 l1.length d3)).setCell ⟨g11,2,none⟩ (.slice B4 ld.length d4)).setCell ⟨g11,3,none⟩ (.bool true)).setCell ⟨g11,4,none⟩ (.int .u64 e)).heap[g8]? = some (.cells #[.int .u64 0,.slice none 0 0,.slice none 0 0,.bool false,.int .u64 0] 28 (0,0))):=⟨blk_far (p:=⟨g11,4,none⟩) (blk_far (p:=⟨g11,3,none⟩) (blk_far (p:=⟨g11,2,none⟩) (blk_far (p:=⟨g11,1,none⟩) (blk_far (p:=⟨g11,0,none⟩) (BK_g8.out) NB_g8_g11 (.int .u64 nx)) NB_g8_g11 (.slice B3 l1.length d3)) NB_g8_g11 (.slice B4 ld.length d4)) NB_g8_g11 (.bool true)) NB_g8_g11 (.int .u64 e)⟩
    have n42_ : Aside0 (Kd.R k41 41 (((((w13.setCell ⟨g11,0,none⟩ (.int .u64 nx)).setCell ⟨g11,1,none⟩ (.slice B3 l1.length d3)).setCell ⟨g11,2,none⟩ (.slice B4 ld.length d4)).setCell ⟨g11,3,none⟩ (.bool true)).setCell ⟨g11,4,none⟩ (.int .u64 e)) w.heap.size (fun _ => True) (.slice B3 l1.length d3) l1):=⟨Kd.R_mono (Kd.R_far (p:=⟨g11,4,none⟩) (Kd.R_far (p:=⟨g11,3,none⟩) (Kd.R_far (p:=⟨g11,2,none⟩) (Kd.R_far (p:=⟨g11,1,none⟩) (Kd.R_far (p:=⟨g11,0,none⟩) (Kd.R_types O1.out BK_g11.out ne_sp) (fun _ hk => hk.2) (.int .u64 nx)) (fun _ hk => hk.2) (.slice B3 l1.length d3)) (fun _ hk => hk.2) (.slice B4 ld.length d4)) (fun _ hk => hk.2) (.bool true)) (fun _ hk => hk.2) (.int .u64 e)) (fun _ hk => hk.1)⟩
    have n43_ : Aside0 (Kd.R (Kd.int .u8) 5 (((((w13.setCell ⟨g11,0,none⟩ (.int .u64 nx)).setCell ⟨g11,1,none⟩ (.slice B3 l1.length d3)).setCell ⟨g11,2,none⟩ (.slice B4 ld.length d4)).setCell ⟨g11,3,none⟩ (.bool true)).setCell ⟨g11,4,none⟩ (.int .u64 e)) w.heap.size (fun _ => True) (.slice B4 ld.length d4) ld):=⟨Kd.R_mono (Kd.R_far (p:=⟨g11,4,none⟩) (Kd.R_far (p:=⟨g11,3,none⟩) (Kd.R_far (p:=⟨g11,2,none⟩) (Kd.R_far (p:=⟨g11,1,none⟩) (Kd.R_far (p:=⟨g11,0,none⟩) (Kd.R_types O2.out BK_g11.out ne_by) (fun _ hk => hk.2) (.int .u64 nx)) (fun _ hk => hk.2) (.slice B3 l1.length d3)) (fun _ hk => hk.2) (.slice B4 ld.length d4)) (fun _ hk => hk.2) (.bool true)) (fun _ hk => hk.2) (.int .u64 e)) (fun _ hk => hk.1)⟩
    have n44_ : Aside0 (Below w.heap.size w (((((w13.setCell ⟨g11,0,none⟩ (.int .u64 nx)).setCell ⟨g11,1,none⟩ (.slice B3 l1.length d3)).setCell ⟨g11,2,none⟩ (.slice B4 ld.length d4)).setCell ⟨g11,3,none⟩ (.bool true)).setCell ⟨g11,4,none⟩ (.int .u64 e))):=⟨below_set (below_set (below_set (below_set (below_set (HB.out) GE_g11.out (j:=0) (v:=.int .u64 nx)) GE_g11.out (j:=1) (v:=.slice B3 l1.length d3)) GE_g11.out (j:=2) (v:=.slice B4 ld.length d4)) GE_g11.out (j:=3) (v:=.bool true)) GE_g11.out (j:=4) (v:=.int .u64 e)⟩
    clear BK_g11 BK_g4 BK_g5 BK_g6 BK_g8 O1 O2 HB
    have BK_g11:=n37_
    have BK_g4:=n38_
    have BK_g5:=n39_
    have BK_g6:=n40_
    have BK_g8:=n41_
    have O1:=n42_
    have O2:=n43_
    have HB:=n44_
    clear n37_ n38_ n39_ n40_ n41_ n42_ n43_ n44_
    generalize (((((w13.setCell ⟨g11,0,none⟩ (.int .u64 nx)).setCell ⟨g11,1,none⟩ (.slice B3 l1.length d3)).setCell ⟨g11,2,none⟩ (.slice B4 ld.length d4)).setCell ⟨g11,3,none⟩ (.bool true)).setCell ⟨g11,4,none⟩ (.int .u64 e)) = w14 at BK_g11 BK_g4 BK_g5 BK_g6 BK_g8 O1 O2 HB ⊢
    go_wp2
    go_meet
    case rel => exact ⟨_,_,BK_g4,BK_g5,BK_g6,BK_g8,by rw [e1_,e2_];exact BK_g11,O1,O2,HB⟩
 case rest =>
  obtain ⟨vk,vb,B_g4,B_g5,B_g6,B_g8,B_g11,O1,O2,HB⟩:=hcut
  obtain ⟨B7,d7,e7⟩:=Kd.R_slice O1.out
  subst e7
  obtain ⟨B8,d8,e8⟩:=Kd.R_slice O2.out
  subst e8
  have hx_g4_0 : wc.cell? ⟨g4,0,none⟩ = some (.int .u64 nx):=(blk_cell B_g4.out 0).trans rfl
  have hf_g4_0:=blk_frozen B_g4.out 0
  have hx_g4_1 : wc.cell? ⟨g4,1,none⟩ = some (.slice A1 l1.length c1):=(blk_cell B_g4.out 1).trans rfl
  have hf_g4_1:=blk_frozen B_g4.out 1
  have hx_g4_2 : wc.cell? ⟨g4,2,none⟩ = some (.slice A2 ld.length c2):=(blk_cell B_g4.out 2).trans rfl
  have hf_g4_2:=blk_frozen B_g4.out 2
  have hx_g4_3 : wc.cell? ⟨g4,3,none⟩ = some (.bool en):=(blk_cell B_g4.out 3).trans rfl
  have hf_g4_3:=blk_frozen B_g4.out 3
  have hx_g4_4 : wc.cell? ⟨g4,4,none⟩ = some (.int .u64 sz):=(blk_cell B_g4.out 4).trans rfl
  have hf_g4_4:=blk_frozen B_g4.out 4
  have hx_g5_0 : wc.cell? ⟨g5,0,none⟩ = some (.int .u64 off):=(blk_cell B_g5.out 0).trans rfl
  have hf_g5_0:=blk_frozen B_g5.out 0
  have hx_g11_0 : wc.cell? ⟨g11,0,none⟩ = some (.int .u64 nx):=(blk_cell B_g11.out 0).trans rfl
  have hf_g11_0:=blk_frozen B_g11.out 0
  have hx_g11_1 : wc.cell? ⟨g11,1,none⟩ = some (.slice B7 l1.length d7):=(blk_cell B_g11.out 1).trans rfl
  have hf_g11_1:=blk_frozen B_g11.out 1
  have hx_g11_2 : wc.cell? ⟨g11,2,none⟩ = some (.slice B8 ld.length d8):=(blk_cell B_g11.out 2).trans rfl
  have hf_g11_2:=blk_frozen B_g11.out 2
  have hx_g11_3 : wc.cell? ⟨g11,3,none⟩ = some (.bool en2):=(blk_cell B_g11.out 3).trans rfl
  have hf_g11_3:=blk_frozen B_g11.out 3
  have hx_g11_4 : wc.cell? ⟨g11,4,none⟩ = some (.int .u64 sz2):=(blk_cell B_g11.out 4).trans rfl
  have hf_g11_4:=blk_frozen B_g11.out 4
  obtain ⟨fm,hfm⟩ : ∃ fm : Int,mx off nx = fm:=⟨_,rfl⟩
  have hfm_ : (if off < nx then nx else off) = fm:=hfm
  have gm : nx ≤ fm ∧ off ≤ fm:=by rw [← hfm_];split <;> omega
  by_cases c : e ≤ fm
  ·have cb : decide (e ≤ fm) = true:=decide_eq_true c
   have hr : r = (nx,l1,ld,en2,sz2,0):=by have h_:=HF.out;unfold gather_Put.body at h_;rw [hfm,if_pos c] at h_;exact (Option.some.inj h_).symm
   subst hr
   have hx_g8_0 : wc.cell? ⟨g8,0,none⟩ = some (.int .u64 0):=(blk_cell B_g8.out 0).trans rfl
   have hf_g8_0:=blk_frozen B_g8.out 0
   have hx_g8_1 : wc.cell? ⟨g8,1,none⟩ = some (.slice none 0 0):=(blk_cell B_g8.out 1).trans rfl
   have hf_g8_1:=blk_frozen B_g8.out 1
   have hx_g8_2 : wc.cell? ⟨g8,2,none⟩ = some (.slice none 0 0):=(blk_cell B_g8.out 2).trans rfl
   have hf_g8_2:=blk_frozen B_g8.out 2
   have hx_g8_3 : wc.cell? ⟨g8,3,none⟩ = some (.bool false):=(blk_cell B_g8.out 3).trans rfl
   have hf_g8_3:=blk_frozen B_g8.out 3
   have hx_g8_4 : wc.cell? ⟨g8,4,none⟩ = some (.int .u64 0):=(blk_cell B_g8.out 4).trans rfl
   have hf_g8_4:=blk_frozen B_g8.out 4
   go_wp2
   refine bodyPost_ret (results_ct rfl _ _ g8 28 #[.int .u64 nx,.slice B7 l1.length d7,.slice B8 ld.length d8,.bool en2,.int .u64 sz2] (0,0) _ rfl (blk_put5 B_g8.out) Try.underlying28 rfl (by kernel_rfl)) rfl ?_
   exact ⟨_,_,rfl,R_set5 O1.out B_g8.out ne_sp,R_set5 O2.out B_g8.out ne_by,below_set5 HB.out GE_g8.out⟩
  ·have cb : decide (e ≤ fm) = false:=decide_eq_false c
   obtain ⟨fresh,d2,k2,F1,F0,F2,F3,hr⟩ : ∃ fresh d2 k2,Aside0 (gather_Put.cuts [(⟨fm,e⟩ : S41)] l1 = some fresh) ∧ Aside0 (fresh.length < 1000000) ∧ Aside0 (gather_Put.lays nx off l2 (gather_Put.grow ld (e - nx)) fresh = some d2) ∧ Aside0 (span_Add.f k l1 fm e = some k2) ∧ r = (nx,k2,d2,en2,sz2,0):=by
    have h_:=HF.out
    unfold gather_Put.body at h_
    rw [hfm,if_neg c] at h_
    obtain ⟨fresh,f1,h_⟩:=Option.bind_eq_some_iff.mp h_
    by_cases f0 : fresh.length < 1000000
    ·rw [if_pos f0] at h_
     obtain ⟨d2,f2,h_⟩:=Option.bind_eq_some_iff.mp h_
     obtain ⟨k2,f3,h_⟩:=Option.bind_eq_some_iff.mp h_
     exact ⟨fresh,d2,k2,⟨f1⟩,⟨f0⟩,⟨f2⟩,⟨f3⟩,(Option.some.inj h_).symm⟩
    ·rw [if_neg f0] at h_
     cases h_
   subst hr
   clear HF
   obtain ⟨m,hm⟩ : ∃ m : Int,m = e - nx - (ld.length : Int):=⟨_,rfl⟩
   have HM:=Aside0.mk hm
   have lt : fm < e:=by omega
   have ge : nx ≤ fm ∧ off ≤ fm:=gm
   have hw4 : IntKind.u64.wrap (e - nx) = e - nx:=by rw [IntKind.wrap_u64];have h_:=HN.out;omega
   have hw5 : IntKind.i64.wrap (e - nx) = e - nx:=by rw [IntKind.wrap_i64];have h_:=HN.out;omega
   have hw6 : wrap64 (e - nx) = e - nx:=(i64_w _).symm.trans hw5
   have hw7 : IntKind.i64.wrap (e - nx - (ld.length : Int)) = m:=by rw [IntKind.wrap_i64];have h_:=HN.out;omega
   have hw8 : wrap64 (e - nx - (ld.length : Int)) = m:=(i64_w _).symm.trans hw7
   have LT:=Aside0.mk lt
   have GEM:=Aside0.mk ge
   clear c lt ge hm gm
   clear O1
   go_upto_if 79 with fail
   go_cut [] (fun wd => ∃ (vb : Value),Aside0 (wd.heap[g4]? = some (.cells #[.int .u64 nx,.slice A1 l1.length c1,.slice A2 ld.length c2,.bool en,.int .u64 sz] 28 (0,0))) ∧ Aside0 (wd.heap[g5]? = some (.cells #[.int .u64 off] 25 (0,0))) ∧ Aside0 (wd.heap[g6]? = some (.cells #[.slice A3 l2.length c3] 23 (0,0))) ∧ Aside0 (wd.heap[g8]? = some (.cells #[.int .u64 0,.slice none 0 0,.slice none 0 0,.bool false,.int .u64 0] 28 (0,0))) ∧ Aside0 (wd.heap[g11]? = some (.cells #[.int .u64 nx,.slice B7 l1.length d7,vb,.bool en2,.int .u64 sz2] 28 (0,0))) ∧ Aside0 (Kd.R (Kd.int .u8) 5 wd w.heap.size (fun _ => True) vb (gather_Put.grow ld (e - nx))) ∧ Aside0 (Below w.heap.size w wd))
   case first =>
    by_cases c : 0 < m
    ·have cb2 : decide (0 < m) = true:=decide_eq_true c
     have HP:=Aside0.mk c
     have hgr : Aside0 (gather_Put.grow ld (e - nx) = ld ++ List.replicate m.toNat 0):=⟨by unfold gather_Put.grow;rw [← HM.out,if_pos (show m > 0 from c)]⟩
     clear c
     (try rw [cb2])
     go_wp2_with ((with_reducible refine gate_builtin (b:=.append) (xs:=#[.tmp 81,.tmp 82]) rfl ?_);at_builtin;refine Kd.R_append_zeros (Kd.int .u8) (w0:=w) w.heap.size rfl (.tmp 81) (.tmp 82) 23 3 5 (.int .u8 0) 1 rfl Try.underlying23 Try.underlying3 info5 rfl (by decide) (by omega) (.slice B8 ld.length d8) ld (0 : Int) m (fun _ => True) rfl rfl ?aZ (fun _ _ => trivial) O2.out (Int.le_of_lt HP.out) HB.out HB.out.size ?aL ?_;(case aZ => exact rfl);(case aL => have h1_:=HN.out;have h2_:=HM.out;omega);intro v83 w83 ho hb hg hat;rw [← hgr.out] at ho;clear hx_g4_0 hf_g4_0 hx_g4_1 hf_g4_1 hx_g4_2 hf_g4_2 hx_g4_3 hf_g4_3 hx_g4_4 hf_g4_4 hx_g5_0 hf_g5_0 hx_g11_0 hf_g11_0 hx_g11_1 hf_g11_1 hx_g11_2 hf_g11_2 hx_g11_3 hf_g11_3 hx_g11_4 hf_g11_4;have n1_:=Aside0.mk (hb);have n2_:=Aside0.mk (blk_grown B_g4.out hg (Kd.R_ne O2.out B_g4.out (by decide)));have n3_:=Aside0.mk (blk_grown B_g5.out hg (Kd.R_ne O2.out B_g5.out (by decide)));have n4_:=Aside0.mk (blk_grown B_g6.out hg (Kd.R_ne O2.out B_g6.out (by decide)));have n5_:=Aside0.mk (blk_grown B_g8.out hg (Kd.R_ne O2.out B_g8.out (by decide)));have n6_:=Aside0.mk (blk_grown B_g11.out hg (Kd.R_ne O2.out B_g11.out (by decide)));clear HB B_g4 B_g5 B_g6 B_g8 B_g11;have HB:=n1_;have B_g4:=n2_;have B_g5:=n3_;have B_g6:=n4_;have B_g8:=n5_;have B_g11:=n6_;clear n1_ n2_ n3_ n4_ n5_ n6_;have O3:=Aside0.mk ho;clear O2;clear ho hb hg hat;obtain ⟨B9,d9,e9⟩:=Kd.R_slice O3.out;subst e9;have hx_g11_0 : w83.cell? ⟨g11,0,none⟩ = some (.int .u64 nx):=(blk_cell B_g11.out 0).trans rfl;have hf_g11_0:=blk_frozen B_g11.out 0;have hx_g11_1 : w83.cell? ⟨g11,1,none⟩ = some (.slice B7 l1.length d7):=(blk_cell B_g11.out 1).trans rfl;have hf_g11_1:=blk_frozen B_g11.out 1;have hx_g11_2 : w83.cell? ⟨g11,2,none⟩ = some (.slice B8 ld.length d8):=(blk_cell B_g11.out 2).trans rfl;have hf_g11_2:=blk_frozen B_g11.out 2;have hx_g11_3 : w83.cell? ⟨g11,3,none⟩ = some (.bool en2):=(blk_cell B_g11.out 3).trans rfl;have hf_g11_3:=blk_frozen B_g11.out 3;have hx_g11_4 : w83.cell? ⟨g11,4,none⟩ = some (.int .u64 sz2):=(blk_cell B_g11.out 4).trans rfl;have hf_g11_4:=blk_frozen B_g11.out 4)
     clear hx_g11_0 hf_g11_0 hx_g11_1 hf_g11_1 hx_g11_2 hf_g11_2 hx_g11_3 hf_g11_3 hx_g11_4 hf_g11_4
     have n1_ : Aside0 ((w83.setCell ⟨g11,2,none⟩ (.slice B9 (gather_Put.grow ld (e - nx)).length d9)).heap[g11]? = some (.cells #[.int .u64 nx,.slice B7 l1.length d7,.slice B9 (gather_Put.grow ld (e - nx)).length d9,.bool en2,.int .u64 sz2] 28 (0,0))):=⟨blk_put (B_g11.out) 2 (.slice B9 (gather_Put.grow ld (e - nx)).length d9) (cs':=#[.int .u64 nx,.slice B7 l1.length d7,.slice B9 (gather_Put.grow ld (e - nx)).length d9,.bool en2,.int .u64 sz2]) rfl⟩
     have n2_ : Aside0 ((w83.setCell ⟨g11,2,none⟩ (.slice B9 (gather_Put.grow ld (e - nx)).length d9)).heap[g4]? = some (.cells #[.int .u64 nx,.slice A1 l1.length c1,.slice A2 ld.length c2,.bool en,.int .u64 sz] 28 (0,0))):=⟨blk_far (p:=⟨g11,2,none⟩) (B_g4.out) NB_g4_g11 (.slice B9 (gather_Put.grow ld (e - nx)).length d9)⟩
     have n3_ : Aside0 ((w83.setCell ⟨g11,2,none⟩ (.slice B9 (gather_Put.grow ld (e - nx)).length d9)).heap[g5]? = some (.cells #[.int .u64 off] 25 (0,0))):=⟨blk_far (p:=⟨g11,2,none⟩) (B_g5.out) NB_g5_g11 (.slice B9 (gather_Put.grow ld (e - nx)).length d9)⟩
     have n4_ : Aside0 ((w83.setCell ⟨g11,2,none⟩ (.slice B9 (gather_Put.grow ld (e - nx)).length d9)).heap[g6]? = some (.cells #[.slice A3 l2.length c3] 23 (0,0))):=⟨blk_far (p:=⟨g11,2,none⟩) (B_g6.out) NB_g6_g11 (.slice B9 (gather_Put.grow ld (e - nx)).length d9)⟩
     have n5_ : Aside0 ((w83.setCell ⟨g11,2,none⟩ (.slice B9 (gather_Put.grow ld (e - nx)).length d9)).heap[g8]? = some (.cells #[.int .u64 0,.slice none 0 0,.slice none 0 0,.bool false,.int .u64 0] 28 (0,0))):=⟨blk_far (p:=⟨g11,2,none⟩) (B_g8.out) NB_g8_g11 (.slice B9 (gather_Put.grow ld (e - nx)).length d9)⟩
     have n6_ : Aside0 (Kd.R (Kd.int .u8) 5 (w83.setCell ⟨g11,2,none⟩ (.slice B9 (gather_Put.grow ld (e - nx)).length d9)) w.heap.size (fun _ => True) (.slice B9 (gather_Put.grow ld (e - nx)).length d9) (gather_Put.grow ld (e - nx))):=⟨Kd.R_mono (Kd.R_far (p:=⟨g11,2,none⟩) (Kd.R_types O3.out B_g11.out ne_by) (fun _ hk => hk.2) (.slice B9 (gather_Put.grow ld (e - nx)).length d9)) (fun _ hk => hk.1)⟩
     have n7_ : Aside0 (Below w.heap.size w (w83.setCell ⟨g11,2,none⟩ (.slice B9 (gather_Put.grow ld (e - nx)).length d9))):=⟨below_set (HB.out) GE_g11.out (j:=2) (v:=.slice B9 (gather_Put.grow ld (e - nx)).length d9)⟩
     clear B_g11 B_g4 B_g5 B_g6 B_g8 O3 HB
     have B_g11:=n1_
     have B_g4:=n2_
     have B_g5:=n3_
     have B_g6:=n4_
     have B_g8:=n5_
     have O3:=n6_
     have HB:=n7_
     clear n1_ n2_ n3_ n4_ n5_ n6_ n7_
     generalize (w83.setCell ⟨g11,2,none⟩ (.slice B9 (gather_Put.grow ld (e - nx)).length d9)) = w84 at B_g11 B_g4 B_g5 B_g6 B_g8 O3 HB ⊢
     go_meet
     case rel => exact ⟨_,B_g4,B_g5,B_g6,B_g8,B_g11,O3,HB⟩
    ·have cb2 : decide (0 < m) = false:=decide_eq_false c
     have hgr : gather_Put.grow ld (e - nx) = ld:=by unfold gather_Put.grow;rw [← HM.out,if_neg (show ¬ m > 0 from c)]
     (try rw [cb2])
     go_wp2
     go_meet
     case rel => exact ⟨_,B_g4,B_g5,B_g6,B_g8,B_g11,by rw [hgr];exact O2,HB⟩
   case rest =>
    try clear O2
    clear B_g4 B_g5 B_g6 B_g8 B_g11 HB
    obtain ⟨vb,B_g4,B_g5,B_g6,B_g8,B_g11,O2,HB⟩:=hcut
    have hx_g4_0 : wc.cell? ⟨g4,0,none⟩ = some (.int .u64 nx):=(blk_cell B_g4.out 0).trans rfl
    have hf_g4_0:=blk_frozen B_g4.out 0
    have hx_g4_1 : wc.cell? ⟨g4,1,none⟩ = some (.slice A1 l1.length c1):=(blk_cell B_g4.out 1).trans rfl
    have hf_g4_1:=blk_frozen B_g4.out 1
    have hx_g4_2 : wc.cell? ⟨g4,2,none⟩ = some (.slice A2 ld.length c2):=(blk_cell B_g4.out 2).trans rfl
    have hf_g4_2:=blk_frozen B_g4.out 2
    have hx_g4_3 : wc.cell? ⟨g4,3,none⟩ = some (.bool en):=(blk_cell B_g4.out 3).trans rfl
    have hf_g4_3:=blk_frozen B_g4.out 3
    have hx_g4_4 : wc.cell? ⟨g4,4,none⟩ = some (.int .u64 sz):=(blk_cell B_g4.out 4).trans rfl
    have hf_g4_4:=blk_frozen B_g4.out 4
    go_wp2_with ((with_reducible refine gate_dst (N:=89) rfl ?_);refine Kd.R_lit k41 w.heap.size 41 ?hg (N:=89) ?hd (xs:=[(⟨fm,e⟩ : S41)]) (inner:=[.int .u64 fm,.int .u64 e]) (ok:=fun _ => True) (okp:=fun _ => True) ?hr ?hp (fun _ hk => hk) trivial HB.out HB.out.size (by simp) ?_;(case hd => rfl);(case hg => rfl);(case hr => first | (go_simp;done) | (go_simp;rfl));(case hp => exact (Reps.c2 (show Kd.M k41 _ _ _ (⟨fm,e⟩ : S41) [.int .u64 fm,.int .u64 e] from (k41_mkM _ _ _ (⟨fm,e⟩ : S41))) (Reps.none _ _)));intro v89 w89 ho hb hg_ hnew_;clear hx_g4_0 hf_g4_0 hx_g4_1 hf_g4_1 hx_g4_2 hf_g4_2 hx_g4_3 hf_g4_3 hx_g4_4 hf_g4_4;have n1_:=Aside0.mk (hb);have n2_:=Aside0.mk (blk_grown B_g4.out hg_ (by simp));have n3_:=Aside0.mk (blk_grown B_g5.out hg_ (by simp));have n4_:=Aside0.mk (blk_grown B_g6.out hg_ (by simp));have n5_:=Aside0.mk (blk_grown B_g8.out hg_ (by simp));have n6_:=Aside0.mk (blk_grown B_g11.out hg_ (by simp));have n7_:=Aside0.mk (Kd.R_grown O2.out hg_ (fun _ _ => by simp));clear HB B_g4 B_g5 B_g6 B_g8 B_g11 O2;have HB:=n1_;have B_g4:=n2_;have B_g5:=n3_;have B_g6:=n4_;have B_g8:=n5_;have B_g11:=n6_;have O2:=n7_;clear n1_ n2_ n3_ n4_ n5_ n6_ n7_;have O4:=Aside0.mk ho;clear ho hb hg_ hnew_;have hx_g4_0 : w89.cell? ⟨g4,0,none⟩ = some (.int .u64 nx):=(blk_cell B_g4.out 0).trans rfl;have hf_g4_0:=blk_frozen B_g4.out 0;have hx_g4_1 : w89.cell? ⟨g4,1,none⟩ = some (.slice A1 l1.length c1):=(blk_cell B_g4.out 1).trans rfl;have hf_g4_1:=blk_frozen B_g4.out 1;have hx_g4_2 : w89.cell? ⟨g4,2,none⟩ = some (.slice A2 ld.length c2):=(blk_cell B_g4.out 2).trans rfl;have hf_g4_2:=blk_frozen B_g4.out 2;have hx_g4_3 : w89.cell? ⟨g4,3,none⟩ = some (.bool en):=(blk_cell B_g4.out 3).trans rfl;have hf_g4_3:=blk_frozen B_g4.out 3;have hx_g4_4 : w89.cell? ⟨g4,4,none⟩ = some (.int .u64 sz):=(blk_cell B_g4.out 4).trans rfl;have hf_g4_4:=blk_frozen B_g4.out 4)
    go_loopg [16,93] l1.length (fun kq v16 v93 w' => ∃ (i : Int) (fr : List S41),v93 = .int .i64 i ∧ Aside0 (0 ≤ i ∧ i + kq = l1.length) ∧ Aside0 (gather_Put.cuts fr (l1.drop i.toNat) = some fresh) ∧ Aside0 (Kd.R k41 41 w' w.heap.size (fun _ => True) v16 fr) ∧ Aside0 (w'.heap[g4]? = some (.cells #[.int .u64 nx,.slice A1 l1.length c1,.slice A2 ld.length c2,.bool en,.int .u64 sz] 28 (0,0))) ∧ Aside0 (w'.heap[g5]? = some (.cells #[.int .u64 off] 25 (0,0))) ∧ Aside0 (w'.heap[g6]? = some (.cells #[.slice A3 l2.length c3] 23 (0,0))) ∧ Aside0 (w'.heap[g8]? = some (.cells #[.int .u64 0,.slice none 0 0,.slice none 0 0,.bool false,.int .u64 0] 28 (0,0))) ∧ Aside0 (w'.heap[g11]? = some (.cells #[.int .u64 nx,.slice B7 l1.length d7,vb,.bool en2,.int .u64 sz2] 28 (0,0))) ∧ Aside0 (Kd.R (Kd.int .u8) 5 w' w.heap.size (fun _ => True) vb (gather_Put.grow ld (e - nx))) ∧ Aside0 (Below w.heap.size w w'))
    case atStart => exact ⟨0,_,rfl,⟨by simp⟩,⟨by simpa using F1.out⟩,O4,B_g4,B_g5,B_g6,B_g8,B_g11,O2,HB⟩
    case round =>
     clear hx_g4_0 hf_g4_0 hx_g4_1 hf_g4_1 hx_g4_2 hf_g4_2 hx_g4_3 hf_g4_3 hx_g4_4 hf_g4_4
     clear B_g4 B_g5 B_g6 B_g8 B_g11 O2 O4 HB
     obtain ⟨i,fr,rfl,HI2,HQ,O4,B_g4,B_g5,B_g6,B_g8,B_g11,O2,HB⟩:=hrel
     by_cases ci : i < (l1.length : Int)
     ·have cib : decide (i < (l1.length : Int)) = true:=decide_eq_true ci
      cases gk with
      | zero => exact absurd HI2.out.2 (by omega)
      | succ k1 =>
       have p0 : 0 ≤ (i : Int):=HI2.out.1
       have q0 : (i : Int) < (l1.length : Int):=ci
       obtain ⟨fr2,Q1,Q2⟩ : ∃ fr2,Aside0 (span_Cut.f fr (rd_T41 l1 i).f0 (rd_T41 l1 i).f1 = some fr2) ∧ Aside0 (gather_Put.cuts fr2 (l1.drop (i + 1).toNat) = some fresh):=by
        have h_:=HQ.out
        have hi_ : i.toNat < l1.length:=by omega
        rw [List.drop_eq_getElem_cons hi_] at h_
        obtain ⟨fr2,f1,f2⟩:=Option.bind_eq_some_iff.mp h_
        have er : rd_T41 l1 i = l1[i.toNat]:=by unfold rd_T41;simp [List.getD_eq_getElem?_getD,List.getElem?_eq_getElem hi_]
        rw [er,show (i + 1).toNat = i.toNat + 1 by omega]
        exact ⟨fr2,⟨f1⟩,⟨f2⟩⟩
       obtain ⟨ad,e_,hxa,hxb⟩:=at_T41 HR1.out (i : Int) p0 q0
       have HR1':=HR1
       cases e_
       replace hxa:=(HB.out.cell (World.block_lt_of_cell? w _ hxa)).trans hxa
       replace hxb:=(HB.out.cell (World.block_lt_of_cell? w _ hxb)).trans hxb
       replace p0:=eq_true p0
       replace q0:=eq_true q0
       clear ci
       generalize (rd_T41 l1 (i : Int)) = x at hxa hxb Q1
       obtain ⟨Af,cf,ef⟩:=Kd.R_slice O4.out
       subst ef
       go_upto_region 22 with ((with_reducible refine gate_dst (N:=18) rfl ?_);refine box_event ?hg (N:=18) ?hd (cs:=#[.int .u64 0,.int .u64 0]) (t:=41) ?hr ?_;(case hd => rfl);(case hg => rfl);(case hr => first | (go_simp;done) | (go_simp;rfl));intro g18 hg w18 hbox hb;have GE_g18:=Aside0.mk (show w.heap.size ≤ g18 by rw [hg];exact HB.out.size);have NB_g4_g18 : g4 ≠ g18:=(by rw [hg];exact Nat.ne_of_lt (blk_lt B_g4.out));have NB_g18_g4:=NB_g4_g18.symm;have NB_g5_g18 : g5 ≠ g18:=(by rw [hg];exact Nat.ne_of_lt (blk_lt B_g5.out));have NB_g18_g5:=NB_g5_g18.symm;have NB_g6_g18 : g6 ≠ g18:=(by rw [hg];exact Nat.ne_of_lt (blk_lt B_g6.out));have NB_g18_g6:=NB_g6_g18.symm;have NB_g8_g18 : g8 ≠ g18:=(by rw [hg];exact Nat.ne_of_lt (blk_lt B_g8.out));have NB_g18_g8:=NB_g8_g18.symm;have NB_g11_g18 : g11 ≠ g18:=(by rw [hg];exact Nat.ne_of_lt (blk_lt B_g11.out));have NB_g18_g11:=NB_g11_g18.symm;have n8_:=Aside0.mk (below_step HB.out hb);have n9_:=Aside0.mk (blk_below B_g4.out hb);have n10_:=Aside0.mk (blk_below B_g5.out hb);have n11_:=Aside0.mk (blk_below B_g6.out hb);have n12_:=Aside0.mk (blk_below B_g8.out hb);have n13_:=Aside0.mk (blk_below B_g11.out hb);have n14_:=Aside0.mk (Kd.R_below O2.out hb);have n15_:=Aside0.mk (Kd.R_below (Kd.R_elderB O4.out g18 (Nat.le_of_eq hg.symm)) hb);clear HB B_g4 B_g5 B_g6 B_g8 B_g11 O2 O4;have HB:=n8_;have B_g4:=n9_;have B_g5:=n10_;have B_g6:=n11_;have B_g8:=n12_;have B_g11:=n13_;have O2:=n14_;have O4:=n15_;clear n8_ n9_ n10_ n11_ n12_ n13_ n14_ n15_;have BK_g18:=Aside0.mk hbox;clear hbox hb hg;have hx_g18_0 : w18.cell? ⟨g18,0,none⟩ = some (.int .u64 0):=(blk_cell BK_g18.out 0).trans rfl;have hf_g18_0:=blk_frozen BK_g18.out 0;have hx_g18_1 : w18.cell? ⟨g18,1,none⟩ = some (.int .u64 0):=(blk_cell BK_g18.out 1).trans rfl;have hf_g18_1:=blk_frozen BK_g18.out 1)
       clear hx_g18_0 hf_g18_0 hx_g18_1 hf_g18_1
       have n16_ : Aside0 (((w18.setCell ⟨g18,0,none⟩ (.int .u64 x.f0)).setCell ⟨g18,1,none⟩ (.int .u64 x.f1)).heap[g18]? = some (.cells #[.int .u64 x.f0,.int .u64 x.f1] 41 (0,0))):=⟨blk_put (blk_put (BK_g18.out) 0 (.int .u64 x.f0) (cs':=#[.int .u64 x.f0,.int .u64 0]) rfl) 1 (.int .u64 x.f1) (cs':=#[.int .u64 x.f0,.int .u64 x.f1]) rfl⟩
       have n17_ : Aside0 (((w18.setCell ⟨g18,0,none⟩ (.int .u64 x.f0)).setCell ⟨g18,1,none⟩ (.int .u64 x.f1)).heap[g4]? = some (.cells #[.int .u64 nx,.slice (some ad) l1.length c1,.slice A2 ld.length c2,.bool en,.int .u64 sz] 28 (0,0))):=⟨blk_far (p:=⟨g18,1,none⟩) (blk_far (p:=⟨g18,0,none⟩) (B_g4.out) NB_g4_g18 (.int .u64 x.f0)) NB_g4_g18 (.int .u64 x.f1)⟩
       have n18_ : Aside0 (((w18.setCell ⟨g18,0,none⟩ (.int .u64 x.f0)).setCell ⟨g18,1,none⟩ (.int .u64 x.f1)).heap[g5]? = some (.cells #[.int .u64 off] 25 (0,0))):=⟨blk_far (p:=⟨g18,1,none⟩) (blk_far (p:=⟨g18,0,none⟩) (B_g5.out) NB_g5_g18 (.int .u64 x.f0)) NB_g5_g18 (.int .u64 x.f1)⟩
       have n19_ : Aside0 (((w18.setCell ⟨g18,0,none⟩ (.int .u64 x.f0)).setCell ⟨g18,1,none⟩ (.int .u64 x.f1)).heap[g6]? = some (.cells #[.slice A3 l2.length c3] 23 (0,0))):=⟨blk_far (p:=⟨g18,1,none⟩) (blk_far (p:=⟨g18,0,none⟩) (B_g6.out) NB_g6_g18 (.int .u64 x.f0)) NB_g6_g18 (.int .u64 x.f1)⟩
       have n20_ : Aside0 (((w18.setCell ⟨g18,0,none⟩ (.int .u64 x.f0)).setCell ⟨g18,1,none⟩ (.int .u64 x.f1)).heap[g8]? = some (.cells #[.int .u64 0,.slice none 0 0,.slice none 0 0,.bool false,.int .u64 0] 28 (0,0))):=⟨blk_far (p:=⟨g18,1,none⟩) (blk_far (p:=⟨g18,0,none⟩) (B_g8.out) NB_g8_g18 (.int .u64 x.f0)) NB_g8_g18 (.int .u64 x.f1)⟩
       have n21_ : Aside0 (((w18.setCell ⟨g18,0,none⟩ (.int .u64 x.f0)).setCell ⟨g18,1,none⟩ (.int .u64 x.f1)).heap[g11]? = some (.cells #[.int .u64 nx,.slice B7 l1.length d7,vb,.bool en2,.int .u64 sz2] 28 (0,0))):=⟨blk_far (p:=⟨g18,1,none⟩) (blk_far (p:=⟨g18,0,none⟩) (B_g11.out) NB_g11_g18 (.int .u64 x.f0)) NB_g11_g18 (.int .u64 x.f1)⟩
       have n22_ : Aside0 (Kd.R (Kd.int .u8) 5 ((w18.setCell ⟨g18,0,none⟩ (.int .u64 x.f0)).setCell ⟨g18,1,none⟩ (.int .u64 x.f1)) w.heap.size (fun _ => True) (vb) (gather_Put.grow ld (e - nx))):=⟨Kd.R_mono (Kd.R_far (p:=⟨g18,1,none⟩) (Kd.R_far (p:=⟨g18,0,none⟩) (Kd.R_types O2.out BK_g18.out ne_by_sp) (fun _ hk => hk.2) (.int .u64 x.f0)) (fun _ hk => hk.2) (.int .u64 x.f1)) (fun _ hk => hk.1)⟩
       have n23_ : Aside0 (Kd.R k41 41 ((w18.setCell ⟨g18,0,none⟩ (.int .u64 x.f0)).setCell ⟨g18,1,none⟩ (.int .u64 x.f1)) w.heap.size (fun _ => True) (.slice Af fr.length cf) fr):=⟨Kd.R_mono (Kd.R_far (p:=⟨g18,1,none⟩) (Kd.R_far (p:=⟨g18,0,none⟩) (O4.out) (fun _ hk => hk.2) (.int .u64 x.f0)) (fun _ hk => hk.2) (.int .u64 x.f1)) (fun _ hk => hk.1)⟩
       have n24_ : Aside0 (Below w.heap.size w ((w18.setCell ⟨g18,0,none⟩ (.int .u64 x.f0)).setCell ⟨g18,1,none⟩ (.int .u64 x.f1))):=⟨below_set (below_set (HB.out) GE_g18.out (j:=0) (v:=.int .u64 x.f0)) GE_g18.out (j:=1) (v:=.int .u64 x.f1)⟩
       clear BK_g18 B_g4 B_g5 B_g6 B_g8 B_g11 O2 O4 HB
       have BK_g18:=n16_
       have B_g4:=n17_
       have B_g5:=n18_
       have B_g6:=n19_
       have B_g8:=n20_
       have B_g11:=n21_
       have O2:=n22_
       have O4:=n23_
       have HB:=n24_
       clear n16_ n17_ n18_ n19_ n20_ n21_ n22_ n23_ n24_
       generalize ((w18.setCell ⟨g18,0,none⟩ (.int .u64 x.f0)).setCell ⟨g18,1,none⟩ (.int .u64 x.f1)) = w19 at BK_g18 B_g4 B_g5 B_g6 B_g8 B_g11 O2 O4 HB ⊢
       have hx_g18_0 : w19.cell? ⟨g18,0,none⟩ = some (.int .u64 x.f0):=(blk_cell BK_g18.out 0).trans rfl
       have hf_g18_0:=blk_frozen BK_g18.out 0
       have hx_g18_1 : w19.cell? ⟨g18,1,none⟩ = some (.int .u64 x.f1):=(blk_cell BK_g18.out 1).trans rfl
       have hf_g18_1:=blk_frozen BK_g18.out 1
       go_wp2_with ((with_reducible refine gate_callee (f:=18) rfl ?_);refine goesL_ (some 99) rfl rfl Try.func18 (by kernel_rfl) rfl #[.slice Af fr.length cf,.agg #[.int .u64 x.f0,.int .u64 x.f1]] rfl (by (try simp only [List.map_toArray,List.map_cons,List.map_nil]);first | done | rfl) ?_;(with_reducible refine (span_Cut.calls Af cf fr x.f0 x.f1 fr2 _ (Kd.R_reads' O4.out).2.2 (Kd.R_reads' O4.out).2.1 Q1.out).mono ?_);rintro e9 w20 ⟨v20,rfl,ho,hb⟩;refine ⟨_,rfl,?_⟩;clear hx_g18_0 hf_g18_0 hx_g18_1 hf_g18_1;have O5:=Aside0.mk (Kd.R_lower ho HB.out.size);clear ho;have n25_:=Aside0.mk (below_step HB.out hb);have n26_:=Aside0.mk (blk_below B_g4.out hb);have n27_:=Aside0.mk (blk_below B_g5.out hb);have n28_:=Aside0.mk (blk_below B_g6.out hb);have n29_:=Aside0.mk (blk_below B_g8.out hb);have n30_:=Aside0.mk (blk_below B_g11.out hb);have n31_:=Aside0.mk (Kd.R_below O2.out hb);clear HB B_g4 B_g5 B_g6 B_g8 B_g11 O2;have HB:=n25_;have B_g4:=n26_;have B_g5:=n27_;have B_g6:=n28_;have B_g8:=n29_;have B_g11:=n30_;have O2:=n31_;clear n25_ n26_ n27_ n28_ n29_ n30_ n31_;clear hb O4)
       have hw : wrap64 (i + 1) = i + 1:=by have h1:=HN.out;have h2:=HI2.out;unfold wrap64;omega
       go_roundg k1
       case measure => omega
       case rel => exact ⟨wrap64 (i + 1),fr2,rfl,⟨by have h2:=HI2.out;rw [hw];omega⟩,⟨by rw [hw];exact Q2.out⟩,O5,B_g4,B_g5,B_g6,B_g8,B_g11,O2,HB⟩
     ·have cib : decide (i < (l1.length : Int)) = false:=decide_eq_false ci
      have hfr : fr = fresh:=by have h_:=HQ.out;rw [List.drop_eq_nil_of_le (by omega)] at h_;exact Option.some.inj h_
      subst hfr
      clear HQ ci
      obtain ⟨Af,cf,ef⟩:=Kd.R_slice O4.out
      subst ef
      go_wp2_with fail
      go_loopg [103] fr.length (fun kq v103 w' => ∃ (i : Int) (d : List Int),v103 = .int .i64 i ∧ Aside0 (0 ≤ i ∧ i + kq = fr.length) ∧ Aside0 (gather_Put.lays nx off l2 d (fr.drop i.toNat) = some d2) ∧ Aside0 (Kd.R k41 41 w' w.heap.size (fun _ => True) (.slice Af fr.length cf) fr) ∧ Aside0 (w'.heap[g4]? = some (.cells #[.int .u64 nx,.slice A1 l1.length c1,.slice A2 ld.length c2,.bool en,.int .u64 sz] 28 (0,0))) ∧ Aside0 (w'.heap[g5]? = some (.cells #[.int .u64 off] 25 (0,0))) ∧ Aside0 (w'.heap[g6]? = some (.cells #[.slice A3 l2.length c3] 23 (0,0))) ∧ Aside0 (w'.heap[g8]? = some (.cells #[.int .u64 0,.slice none 0 0,.slice none 0 0,.bool false,.int .u64 0] 28 (0,0))) ∧ Aside0 (w'.heap[g11]? = some (.cells #[.int .u64 nx,.slice B7 l1.length d7,vb,.bool en2,.int .u64 sz2] 28 (0,0))) ∧ Aside0 (Kd.R (Kd.int .u8) 5 w' w.heap.size (fun _ => True) vb d) ∧ Aside0 (Below w.heap.size w w'))
      case atStart => exact ⟨0,_,rfl,⟨by simp⟩,⟨by simpa using F2.out⟩,O4,B_g4,B_g5,B_g6,B_g8,B_g11,O2,HB⟩
      case round =>
       clear B_g4 B_g5 B_g6 B_g8 B_g11 O2 O4 HB HI2
       obtain ⟨i,d,rfl,HI2,HQ,O4,B_g4,B_g5,B_g6,B_g8,B_g11,O2,HB⟩:=hrel
       by_cases ci : i < (fr.length : Int)
       ·have cib2 : decide (i < (fr.length : Int)) = true:=decide_eq_true ci
        cases gk with
        | zero => exact absurd HI2.out.2 (by omega)
        | succ k1 =>
         have p0 : 0 ≤ (i : Int):=HI2.out.1
         have q0 : (i : Int) < (fr.length : Int):=ci
         obtain ⟨d3,Q1,Q2⟩ : ∃ d3,Aside0 (gather_Put.lay nx off l2 d (rd_T41 fr i) = some d3) ∧ Aside0 (gather_Put.lays nx off l2 d3 (fr.drop (i + 1).toNat) = some d2):=by
          have h_:=HQ.out
          have hi_ : i.toNat < fr.length:=by omega
          rw [List.drop_eq_getElem_cons hi_] at h_
          obtain ⟨d3,f1,f2⟩:=Option.bind_eq_some_iff.mp h_
          have er : rd_T41 fr i = fr[i.toNat]:=by unfold rd_T41;simp [List.getD_eq_getElem?_getD,List.getElem?_eq_getElem hi_]
          rw [er,show (i + 1).toNat = i.toNat + 1 by omega]
          exact ⟨d3,⟨f1⟩,⟨f2⟩⟩
         obtain ⟨ad,e_,hxa,hxb⟩:=at_T41 (Kd.R_reads' O4.out).2.2 (i : Int) p0 q0
         subst e_
         replace p0:=eq_true p0
         replace q0:=eq_true q0
         clear ci
         generalize (rd_T41 fr (i : Int)) = x at hxa hxb Q1
         obtain ⟨QC,hd3⟩ : Aside0 (nx ≤ x.f0 ∧ off ≤ x.f0 ∧ x.f0 < x.f1 ∧ x.f1 - nx ≤ d.length ∧ x.f1 - off ≤ l2.length ∧ d.length < 2000000000 ∧ l2.length < 2000000000) ∧ d3 = splice d (x.f0 - nx).toNat (gather_Put_1.seg l2 (x.f0 - off).toNat ((x.f1 - nx).toNat - (x.f0 - nx).toNat)):=by
          have h_:=Q1.out
          unfold gather_Put.lay at h_
          split at h_
          ·rename_i hc;exact ⟨⟨hc⟩,(Option.some.inj h_).symm⟩
          ·cases h_
         subst hd3
         clear Q1
         go_upto_region 27 with ((with_reducible refine gate_dst (N:=20) rfl ?_);refine box_event ?hg (N:=20) ?hd (cs:=#[.int .u64 0,.int .u64 0]) (t:=41) ?hr ?_;(case hd => rfl);(case hg => rfl);(case hr => first | (go_simp;done) | (go_simp;rfl));intro g20 hg w21 hbox hb;have GE_g20:=Aside0.mk (show w.heap.size ≤ g20 by rw [hg];exact HB.out.size);have NB_g4_g20 : g4 ≠ g20:=(by rw [hg];exact Nat.ne_of_lt (blk_lt B_g4.out));have NB_g20_g4:=NB_g4_g20.symm;have NB_g5_g20 : g5 ≠ g20:=(by rw [hg];exact Nat.ne_of_lt (blk_lt B_g5.out));have NB_g20_g5:=NB_g5_g20.symm;have NB_g6_g20 : g6 ≠ g20:=(by rw [hg];exact Nat.ne_of_lt (blk_lt B_g6.out));have NB_g20_g6:=NB_g6_g20.symm;have NB_g8_g20 : g8 ≠ g20:=(by rw [hg];exact Nat.ne_of_lt (blk_lt B_g8.out));have NB_g20_g8:=NB_g8_g20.symm;have NB_g11_g20 : g11 ≠ g20:=(by rw [hg];exact Nat.ne_of_lt (blk_lt B_g11.out));have NB_g20_g11:=NB_g11_g20.symm;have n32_:=Aside0.mk (below_step HB.out hb);have n33_:=Aside0.mk (blk_below B_g4.out hb);have n34_:=Aside0.mk (blk_below B_g5.out hb);have n35_:=Aside0.mk (blk_below B_g6.out hb);have n36_:=Aside0.mk (blk_below B_g8.out hb);have n37_:=Aside0.mk (blk_below B_g11.out hb);have n38_:=Aside0.mk (Kd.R_below O2.out hb);have n39_:=Aside0.mk (Kd.R_below (Kd.R_elderB O4.out g20 (Nat.le_of_eq hg.symm)) hb);clear HB B_g4 B_g5 B_g6 B_g8 B_g11 O2 O4;have HB:=n32_;have B_g4:=n33_;have B_g5:=n34_;have B_g6:=n35_;have B_g8:=n36_;have B_g11:=n37_;have O2:=n38_;have O4:=n39_;clear n32_ n33_ n34_ n35_ n36_ n37_ n38_ n39_;have BK_g20:=Aside0.mk hbox;clear hbox hb hg;have hx_g20_0 : w21.cell? ⟨g20,0,none⟩ = some (.int .u64 0):=(blk_cell BK_g20.out 0).trans rfl;have hf_g20_0:=blk_frozen BK_g20.out 0;have hx_g20_1 : w21.cell? ⟨g20,1,none⟩ = some (.int .u64 0):=(blk_cell BK_g20.out 1).trans rfl;have hf_g20_1:=blk_frozen BK_g20.out 1)
         clear hx_g20_0 hf_g20_0 hx_g20_1 hf_g20_1
         have n40_ : Aside0 (((w21.setCell ⟨g20,0,none⟩ (.int .u64 x.f0)).setCell ⟨g20,1,none⟩ (.int .u64 x.f1)).heap[g20]? = some (.cells #[.int .u64 x.f0,.int .u64 x.f1] 41 (0,0))):=⟨blk_put (blk_put (BK_g20.out) 0 (.int .u64 x.f0) (cs':=#[.int .u64 x.f0,.int .u64 0]) rfl) 1 (.int .u64 x.f1) (cs':=#[.int .u64 x.f0,.int .u64 x.f1]) rfl⟩
         have n41_ : Aside0 (((w21.setCell ⟨g20,0,none⟩ (.int .u64 x.f0)).setCell ⟨g20,1,none⟩ (.int .u64 x.f1)).heap[g4]? = some (.cells #[.int .u64 nx,.slice A1 l1.length c1,.slice A2 ld.length c2,.bool en,.int .u64 sz] 28 (0,0))):=⟨blk_far (p:=⟨g20,1,none⟩) (blk_far (p:=⟨g20,0,none⟩) (B_g4.out) NB_g4_g20 (.int .u64 x.f0)) NB_g4_g20 (.int .u64 x.f1)⟩
         have n42_ : Aside0 (((w21.setCell ⟨g20,0,none⟩ (.int .u64 x.f0)).setCell ⟨g20,1,none⟩ (.int .u64 x.f1)).heap[g5]? = some (.cells #[.int .u64 off] 25 (0,0))):=⟨blk_far (p:=⟨g20,1,none⟩) (blk_far (p:=⟨g20,0,none⟩) (B_g5.out) NB_g5_g20 (.int .u64 x.f0)) NB_g5_g20 (.int .u64 x.f1)⟩
         have n43_ : Aside0 (((w21.setCell ⟨g20,0,none⟩ (.int .u64 x.f0)).setCell ⟨g20,1,none⟩ (.int .u64 x.f1)).heap[g6]? = some (.cells #[.slice A3 l2.length c3] 23 (0,0))):=⟨blk_far (p:=⟨g20,1,none⟩) (blk_far (p:=⟨g20,0,none⟩) (B_g6.out) NB_g6_g20 (.int .u64 x.f0)) NB_g6_g20 (.int .u64 x.f1)⟩
         have n44_ : Aside0 (((w21.setCell ⟨g20,0,none⟩ (.int .u64 x.f0)).setCell ⟨g20,1,none⟩ (.int .u64 x.f1)).heap[g8]? = some (.cells #[.int .u64 0,.slice none 0 0,.slice none 0 0,.bool false,.int .u64 0] 28 (0,0))):=⟨blk_far (p:=⟨g20,1,none⟩) (blk_far (p:=⟨g20,0,none⟩) (B_g8.out) NB_g8_g20 (.int .u64 x.f0)) NB_g8_g20 (.int .u64 x.f1)⟩
         have n45_ : Aside0 (((w21.setCell ⟨g20,0,none⟩ (.int .u64 x.f0)).setCell ⟨g20,1,none⟩ (.int .u64 x.f1)).heap[g11]? = some (.cells #[.int .u64 nx,.slice B7 l1.length d7,vb,.bool en2,.int .u64 sz2] 28 (0,0))):=⟨blk_far (p:=⟨g20,1,none⟩) (blk_far (p:=⟨g20,0,none⟩) (B_g11.out) NB_g11_g20 (.int .u64 x.f0)) NB_g11_g20 (.int .u64 x.f1)⟩
         have n46_ : Aside0 (Kd.R (Kd.int .u8) 5 ((w21.setCell ⟨g20,0,none⟩ (.int .u64 x.f0)).setCell ⟨g20,1,none⟩ (.int .u64 x.f1)) w.heap.size (fun _ => True) (vb) d):=⟨Kd.R_mono (Kd.R_far (p:=⟨g20,1,none⟩) (Kd.R_far (p:=⟨g20,0,none⟩) (Kd.R_types O2.out BK_g20.out ne_by_sp) (fun _ hk => hk.2) (.int .u64 x.f0)) (fun _ hk => hk.2) (.int .u64 x.f1)) (fun _ hk => hk.1)⟩
         have n47_ : Aside0 (Kd.R k41 41 ((w21.setCell ⟨g20,0,none⟩ (.int .u64 x.f0)).setCell ⟨g20,1,none⟩ (.int .u64 x.f1)) w.heap.size (fun _ => True) (.slice (some ad) fr.length cf) fr):=⟨Kd.R_mono (Kd.R_far (p:=⟨g20,1,none⟩) (Kd.R_far (p:=⟨g20,0,none⟩) (O4.out) (fun _ hk => hk.2) (.int .u64 x.f0)) (fun _ hk => hk.2) (.int .u64 x.f1)) (fun _ hk => hk.1)⟩
         have n48_ : Aside0 (Below w.heap.size w ((w21.setCell ⟨g20,0,none⟩ (.int .u64 x.f0)).setCell ⟨g20,1,none⟩ (.int .u64 x.f1))):=⟨below_set (below_set (HB.out) GE_g20.out (j:=0) (v:=.int .u64 x.f0)) GE_g20.out (j:=1) (v:=.int .u64 x.f1)⟩
         clear BK_g20 B_g4 B_g5 B_g6 B_g8 B_g11 O2 O4 HB
         have BK_g20:=n40_
         have B_g4:=n41_
         have B_g5:=n42_
         have B_g6:=n43_
         have B_g8:=n44_
         have B_g11:=n45_
         have O2:=n46_
         have O4:=n47_
         have HB:=n48_
         clear n40_ n41_ n42_ n43_ n44_ n45_ n46_ n47_ n48_
         generalize ((w21.setCell ⟨g20,0,none⟩ (.int .u64 x.f0)).setCell ⟨g20,1,none⟩ (.int .u64 x.f1)) = w22 at BK_g20 B_g4 B_g5 B_g6 B_g8 B_g11 O2 O4 HB ⊢
         have hx_g20_0 : w22.cell? ⟨g20,0,none⟩ = some (.int .u64 x.f0):=(blk_cell BK_g20.out 0).trans rfl
         have hf_g20_0:=blk_frozen BK_g20.out 0
         have hx_g20_1 : w22.cell? ⟨g20,1,none⟩ = some (.int .u64 x.f1):=(blk_cell BK_g20.out 1).trans rfl
         have hf_g20_1:=blk_frozen BK_g20.out 1
         go_wp2_with ((refine gate_closure (f:=17) rfl rfl ?_);refine goesC_ (some 109) rfl rfl Try.func17 (by kernel_rfl) rfl #[.agg #[.int .u64 x.f0,.int .u64 x.f1],.pointer (some ⟨g11,0,none⟩),.pointer (some ⟨g4,0,none⟩),.pointer (some ⟨g6,0,none⟩),.pointer (some ⟨g5,0,none⟩)] rfl rfl (by (try simp only [List.map_toArray,List.map_cons,List.map_nil]);first | done | rfl) ?_;have oap:=Aside0.mk (Kd.R_apartR O4.out O2.out (by intro q hq;have h2 : q ∈ [41]:=hq;simp at h2;omega));(with_reducible refine (gather_Put_1.hand x.f0 x.f1 nx off (x.f0 - nx).toNat (x.f1 - nx).toNat (x.f0 - off).toNat g11 g4 g6 g5 nx (.slice B7 l1.length d7) vb (.slice A1 l1.length c1) (.slice A2 ld.length c2) en2 en sz2 sz A3 c3 d l2 (fun _ => True) w _ B_g11.out B_g4.out B_g6.out B_g5.out O2.out (Kd.C_below HR3.out HB.out) HC3.out HB.out (by rw [IntKind.wrap_u64];have h1_:=QC.out;omega) (by rw [IntKind.wrap_u64];have h1_:=QC.out;omega) (by rw [IntKind.wrap_u64];have h1_:=QC.out;omega) (by have h1_:=QC.out;omega) (by have h1_:=QC.out;omega) (by have h1_:=QC.out;omega)).mono ?_);rintro e9 w23 ⟨rfl,ho,hb,hfr⟩;refine ⟨_,rfl,?_⟩;clear hx_g20_0 hf_g20_0 hx_g20_1 hf_g20_1;have n900_ : Aside0 (Kd.R k41 41 w23 w.heap.size (fun _ => True) (.slice (some ad) fr.length cf) fr):=⟨Kd.R_mono (Kd.R_step oap.out (fun k hk hlt => (hfr k _ (Array.getElem?_eq_getElem hlt) hk.2).trans (Array.getElem?_eq_getElem hlt).symm)) (fun _ hk => hk.1)⟩;have m_g4:=Aside0.mk (hfr g4 _ B_g4.out (Kd.R_ne O2.out B_g4.out (by decide)));have m_g5:=Aside0.mk (hfr g5 _ B_g5.out (Kd.R_ne O2.out B_g5.out (by decide)));have m_g6:=Aside0.mk (hfr g6 _ B_g6.out (Kd.R_ne O2.out B_g6.out (by decide)));have m_g8:=Aside0.mk (hfr g8 _ B_g8.out (Kd.R_ne O2.out B_g8.out (by decide)));have m_g11:=Aside0.mk (hfr g11 _ B_g11.out (Kd.R_ne O2.out B_g11.out (by decide)));clear oap O4 O2 HB B_g4 B_g5 B_g6 B_g8 B_g11;have B_g4:=m_g4;have B_g5:=m_g5;have B_g6:=m_g6;have B_g8:=m_g8;have B_g11:=m_g11;clear m_g4 m_g5 m_g6 m_g8 m_g11;have O4:=n900_;have O2:=Aside0.mk ho;have HB:=Aside0.mk hb;clear n900_ ho hb hfr)
         have hw : wrap64 (i + 1) = i + 1:=by have h1:=F0.out;have h2:=HI2.out;unfold wrap64;omega
         go_roundg k1
         case measure => omega
         case rel => exact ⟨wrap64 (i + 1),_,rfl,⟨by have h2:=HI2.out;rw [hw];omega⟩,⟨by rw [hw];exact Q2.out⟩,O4,B_g4,B_g5,B_g6,B_g8,B_g11,O2,HB⟩
       ·have cib2 : decide (i < (fr.length : Int)) = false:=decide_eq_false ci
        have hd : d = d2:=by have h_:=HQ.out;rw [List.drop_eq_nil_of_le (by omega)] at h_;exact Option.some.inj h_
        subst hd
        clear HQ ci
        obtain ⟨B9,d9,e9⟩:=Kd.R_slice O2.out
        subst e9
        have hx_g4_0 : wr.cell? ⟨g4,0,none⟩ = some (.int .u64 nx):=(blk_cell B_g4.out 0).trans rfl
        have hf_g4_0:=blk_frozen B_g4.out 0
        have hx_g4_1 : wr.cell? ⟨g4,1,none⟩ = some (.slice A1 l1.length c1):=(blk_cell B_g4.out 1).trans rfl
        have hf_g4_1:=blk_frozen B_g4.out 1
        have hx_g4_2 : wr.cell? ⟨g4,2,none⟩ = some (.slice A2 ld.length c2):=(blk_cell B_g4.out 2).trans rfl
        have hf_g4_2:=blk_frozen B_g4.out 2
        have hx_g4_3 : wr.cell? ⟨g4,3,none⟩ = some (.bool en):=(blk_cell B_g4.out 3).trans rfl
        have hf_g4_3:=blk_frozen B_g4.out 3
        have hx_g4_4 : wr.cell? ⟨g4,4,none⟩ = some (.int .u64 sz):=(blk_cell B_g4.out 4).trans rfl
        have hf_g4_4:=blk_frozen B_g4.out 4
        go_upto_region 30 with ((with_reducible refine gate_callee (f:=19) rfl ?_);refine goesL_ (some 116) rfl rfl Try.func19 (by kernel_rfl) rfl #[.slice A1 l1.length c1,.agg #[.int .u64 fm,.int .u64 e]] rfl (by (try simp only [List.map_toArray,List.map_cons,List.map_nil]);first | done | rfl) ?_;(with_reducible refine (span_Add.calls k A1 c1 l1 fm e k2 _ (Kd.C_below HR1.out HB.out) HC1.out F3.out).mono ?_);rintro e9 w24 ⟨v24,rfl,ho,hb⟩;refine ⟨_,rfl,?_⟩;clear hx_g4_0 hf_g4_0 hx_g4_1 hf_g4_1 hx_g4_2 hf_g4_2 hx_g4_3 hf_g4_3 hx_g4_4 hf_g4_4;have O6:=Aside0.mk (Kd.R_lower ho HB.out.size);clear ho;have n49_:=Aside0.mk (below_step HB.out hb);have n50_:=Aside0.mk (blk_below B_g4.out hb);have n51_:=Aside0.mk (blk_below B_g5.out hb);have n52_:=Aside0.mk (blk_below B_g6.out hb);have n53_:=Aside0.mk (blk_below B_g8.out hb);have n54_:=Aside0.mk (blk_below B_g11.out hb);have n55_:=Aside0.mk (Kd.R_below O2.out hb);clear HB B_g4 B_g5 B_g6 B_g8 B_g11 O2;have HB:=n49_;have B_g4:=n50_;have B_g5:=n51_;have B_g6:=n52_;have B_g8:=n53_;have B_g11:=n54_;have O2:=n55_;clear n49_ n50_ n51_ n52_ n53_ n54_ n55_;clear hb;obtain ⟨Bk,dk,ek⟩:=Kd.R_slice O6.out;subst ek;have hx_g11_0 : w24.cell? ⟨g11,0,none⟩ = some (.int .u64 nx):=(blk_cell B_g11.out 0).trans rfl;have hf_g11_0:=blk_frozen B_g11.out 0;have hx_g11_1 : w24.cell? ⟨g11,1,none⟩ = some (.slice B7 l1.length d7):=(blk_cell B_g11.out 1).trans rfl;have hf_g11_1:=blk_frozen B_g11.out 1;have hx_g11_2 : w24.cell? ⟨g11,2,none⟩ = some (.slice B9 d.length d9):=(blk_cell B_g11.out 2).trans rfl;have hf_g11_2:=blk_frozen B_g11.out 2;have hx_g11_3 : w24.cell? ⟨g11,3,none⟩ = some (.bool en2):=(blk_cell B_g11.out 3).trans rfl;have hf_g11_3:=blk_frozen B_g11.out 3;have hx_g11_4 : w24.cell? ⟨g11,4,none⟩ = some (.int .u64 sz2):=(blk_cell B_g11.out 4).trans rfl;have hf_g11_4:=blk_frozen B_g11.out 4)
        clear hx_g11_0 hf_g11_0 hx_g11_1 hf_g11_1 hx_g11_2 hf_g11_2 hx_g11_3 hf_g11_3 hx_g11_4 hf_g11_4
        have n56_ : Aside0 ((w24.setCell ⟨g11,1,none⟩ (.slice Bk k2.length dk)).heap[g11]? = some (.cells #[.int .u64 nx,.slice Bk k2.length dk,.slice B9 d.length d9,.bool en2,.int .u64 sz2] 28 (0,0))):=⟨blk_put (B_g11.out) 1 (.slice Bk k2.length dk) (cs':=#[.int .u64 nx,.slice Bk k2.length dk,.slice B9 d.length d9,.bool en2,.int .u64 sz2]) rfl⟩
        have n57_ : Aside0 ((w24.setCell ⟨g11,1,none⟩ (.slice Bk k2.length dk)).heap[g4]? = some (.cells #[.int .u64 nx,.slice A1 l1.length c1,.slice A2 ld.length c2,.bool en,.int .u64 sz] 28 (0,0))):=⟨blk_far (p:=⟨g11,1,none⟩) (B_g4.out) NB_g4_g11 (.slice Bk k2.length dk)⟩
        have n58_ : Aside0 ((w24.setCell ⟨g11,1,none⟩ (.slice Bk k2.length dk)).heap[g5]? = some (.cells #[.int .u64 off] 25 (0,0))):=⟨blk_far (p:=⟨g11,1,none⟩) (B_g5.out) NB_g5_g11 (.slice Bk k2.length dk)⟩
        have n59_ : Aside0 ((w24.setCell ⟨g11,1,none⟩ (.slice Bk k2.length dk)).heap[g6]? = some (.cells #[.slice A3 l2.length c3] 23 (0,0))):=⟨blk_far (p:=⟨g11,1,none⟩) (B_g6.out) NB_g6_g11 (.slice Bk k2.length dk)⟩
        have n60_ : Aside0 ((w24.setCell ⟨g11,1,none⟩ (.slice Bk k2.length dk)).heap[g8]? = some (.cells #[.int .u64 0,.slice none 0 0,.slice none 0 0,.bool false,.int .u64 0] 28 (0,0))):=⟨blk_far (p:=⟨g11,1,none⟩) (B_g8.out) NB_g8_g11 (.slice Bk k2.length dk)⟩
        have n61_ : Aside0 (Kd.R (Kd.int .u8) 5 (w24.setCell ⟨g11,1,none⟩ (.slice Bk k2.length dk)) w.heap.size (fun _ => True) (.slice B9 d.length d9) d):=⟨Kd.R_mono (Kd.R_far (p:=⟨g11,1,none⟩) (Kd.R_types O2.out B_g11.out ne_by) (fun _ hk => hk.2) (.slice Bk k2.length dk)) (fun _ hk => hk.1)⟩
        have n62_ : Aside0 (Kd.R k41 41 (w24.setCell ⟨g11,1,none⟩ (.slice Bk k2.length dk)) w.heap.size (fun _ => True) (.slice Bk k2.length dk) k2):=⟨Kd.R_mono (Kd.R_far (p:=⟨g11,1,none⟩) (Kd.R_types O6.out B_g11.out ne_sp) (fun _ hk => hk.2) (.slice Bk k2.length dk)) (fun _ hk => hk.1)⟩
        have n63_ : Aside0 (Below w.heap.size w (w24.setCell ⟨g11,1,none⟩ (.slice Bk k2.length dk))):=⟨below_set (HB.out) GE_g11.out (j:=1) (v:=.slice Bk k2.length dk)⟩
        clear B_g11 B_g4 B_g5 B_g6 B_g8 O2 O6 HB
        have B_g11:=n56_
        have B_g4:=n57_
        have B_g5:=n58_
        have B_g6:=n59_
        have B_g8:=n60_
        have O2:=n61_
        have O6:=n62_
        have HB:=n63_
        clear n56_ n57_ n58_ n59_ n60_ n61_ n62_ n63_
        generalize (w24.setCell ⟨g11,1,none⟩ (.slice Bk k2.length dk)) = w25 at B_g11 B_g4 B_g5 B_g6 B_g8 O2 O6 HB ⊢
        have hx_g11_0 : w25.cell? ⟨g11,0,none⟩ = some (.int .u64 nx):=(blk_cell B_g11.out 0).trans rfl
        have hf_g11_0:=blk_frozen B_g11.out 0
        have hx_g11_1 : w25.cell? ⟨g11,1,none⟩ = some (.slice Bk k2.length dk):=(blk_cell B_g11.out 1).trans rfl
        have hf_g11_1:=blk_frozen B_g11.out 1
        have hx_g11_2 : w25.cell? ⟨g11,2,none⟩ = some (.slice B9 d.length d9):=(blk_cell B_g11.out 2).trans rfl
        have hf_g11_2:=blk_frozen B_g11.out 2
        have hx_g11_3 : w25.cell? ⟨g11,3,none⟩ = some (.bool en2):=(blk_cell B_g11.out 3).trans rfl
        have hf_g11_3:=blk_frozen B_g11.out 3
        have hx_g11_4 : w25.cell? ⟨g11,4,none⟩ = some (.int .u64 sz2):=(blk_cell B_g11.out 4).trans rfl
        have hf_g11_4:=blk_frozen B_g11.out 4
        have hx_g8_0 : w25.cell? ⟨g8,0,none⟩ = some (.int .u64 0):=(blk_cell B_g8.out 0).trans rfl
        have hf_g8_0:=blk_frozen B_g8.out 0
        have hx_g8_1 : w25.cell? ⟨g8,1,none⟩ = some (.slice none 0 0):=(blk_cell B_g8.out 1).trans rfl
        have hf_g8_1:=blk_frozen B_g8.out 1
        have hx_g8_2 : w25.cell? ⟨g8,2,none⟩ = some (.slice none 0 0):=(blk_cell B_g8.out 2).trans rfl
        have hf_g8_2:=blk_frozen B_g8.out 2
        have hx_g8_3 : w25.cell? ⟨g8,3,none⟩ = some (.bool false):=(blk_cell B_g8.out 3).trans rfl
        have hf_g8_3:=blk_frozen B_g8.out 3
        have hx_g8_4 : w25.cell? ⟨g8,4,none⟩ = some (.int .u64 0):=(blk_cell B_g8.out 4).trans rfl
        have hf_g8_4:=blk_frozen B_g8.out 4
        go_wp2
        refine bodyPost_ret (results_ct rfl _ _ g8 28 #[.int .u64 nx,.slice Bk k2.length dk,.slice B9 d.length d9,.bool en2,.int .u64 sz2] (0,0) _ rfl (blk_put5 B_g8.out) Try.underlying28 rfl (by kernel_rfl)) rfl ?_
        exact ⟨_,_,rfl,R_set5 O6.out B_g8.out ne_sp,R_set5 O2.out B_g8.out ne_by,below_set5 HB.out GE_g8.out⟩
theorem gather_Put.high (nx : Int) (l1 : List S41) (ld : List Int) (en : Bool) (sz : Int) (h : l1.length < 1000000) : ∃ hi,gather_High.f nx l1 ld en sz = some hi:=by
 unfold gather_High.f
 by_cases c : (l1.length : Int) > 0
 ·rw [if_pos c,if_pos (by unfold wrap64;omega),if_pos (by unfold wrap64;omega)]
  exact ⟨_,rfl⟩
 ·rw [if_neg c]
  exact ⟨_,rfl⟩
theorem gather_Put.calls (k : Nat) (a0_0 : Int) (A0_1 : Option Addr) (c0_1 : Nat) (l0_1 : List S41) (A0_2 : Option Addr) (c0_2 : Nat) (l0_2 : List Int) (a0_3 : Bool) (a0_4 : Int) (a1 : Int) (A2 : Option Addr) (c2 : Nat) (l2 : List Int) (a3 : Bool) (r1 : Int) (r2 : List S41) (r3 : List Int) (r4 : Bool) (r5 : Int) (r6 : Int) (w : World)
  (hr0_1 : Kd.C k41 w A0_1 l0_1.length l0_1) (hc0_1 : l0_1.length ≤ c0_1) (hr0_2 : Kd.C (Kd.int .u8) w A0_2 l0_2.length l0_2) (hc0_2 : l0_2.length ≤ c0_2) (hr2 : Kd.C (Kd.int .u8) w A2 l2.length l2) (hc2 : l2.length ≤ c2) (h : gather_Put.f k a0_0 l0_1 l0_2 a0_3 a0_4 a1 l2 a3 = some (r1,r2,r3,r4,r5,r6)) :
  Calls Try.prog 10 #[.agg #[.int .u64 a0_0,.slice A0_1 l0_1.length c0_1,.slice A0_2 l0_2.length c0_2,.bool a0_3,.int .u64 a0_4],.int .u64 a1,.slice A2 l2.length c2,.bool a3] w fun e w' => ∃ v1_ v2_ : Value,e = .returned (.tuple #[.agg #[.int .u64 r1,v1_,v2_,.bool r4,.int .u64 r5],.int .i64 r6]) ∧ Kd.R k41 41 w' w.heap.size (fun _ => True) v1_ r2 ∧ Kd.R (Kd.int .u8) 5 w' w.heap.size (fun _ => True) v2_ r3 ∧ Below w.heap.size w w':=by
 unfold gather_Put.f at h
 by_cases g : 0 ≤ a0_0 ∧ a0_0 ≤ 1048576 ∧ 0 ≤ a1 ∧ a1 + (l2.length : Int) ≤ 1048576 ∧ l0_1.length < 1000000 ∧ l0_2.length < 1000000000
 ·rw [if_pos g] at h
  obtain ⟨n0,n1,n2,n3,n4,n5⟩:=g
  by_cases c : a0_3 = true ∧ a0_4 < a1 + (l2.length : Int)
  ·rw [if_pos c] at h;cases h
  ·rw [if_neg c] at h
   obtain ⟨hi,hH⟩:=gather_Put.high a0_0 l0_1 l0_2 a0_3 a0_4 n4
   have q1 : a0_3 = true → a1 + (l2.length : Int) ≤ a0_4:=fun q => by have : ¬ (a0_4 < a1 + (l2.length : Int)):=fun q2 => c ⟨q,q2⟩;omega
   cases a3 with
   | true =>
    rw [if_pos rfl,hH,Option.bind_some] at h
    by_cases c2_ : (a0_3 = true ∧ a0_4 ≠ a1 + (l2.length : Int)) ∨ a1 + (l2.length : Int) < hi
    ·rw [if_pos c2_] at h;cases h
    ·rw [if_neg c2_] at h
     exact gather_Put.ok a0_3 true true (a1 + (l2.length : Int)) k a0_0 A0_1 c0_1 l0_1 A0_2 c0_2 l0_2 a0_4 a1 A2 c2 l2 hi _ _ w hr0_1 hc0_1 hr0_2 hc0_2 hr2 hc2 n0 n1 n2 rfl n3 n4 n5 q1 hH (fun _ q3 => Decidable.byContradiction (fun q => c2_ (.inl ⟨q3,q⟩))) (fun _ => by have : ¬ (a1 + (l2.length : Int) < hi):=fun q => c2_ (.inr q);omega) (fun _ => ⟨rfl,rfl⟩) (fun q => by cases q) h
   | false =>
    rw [if_neg (by simp)] at h
    exact gather_Put.ok a0_3 false a0_3 a0_4 k a0_0 A0_1 c0_1 l0_1 A0_2 c0_2 l0_2 a0_4 a1 A2 c2 l2 hi _ _ w hr0_1 hc0_1 hr0_2 hc0_2 hr2 hc2 n0 n1 n2 rfl n3 n4 n5 q1 hH (fun q => by cases q) (fun q => by cases q) (fun q => by cases q) (fun _ => ⟨rfl,rfl⟩) h
 ·rw [if_neg g] at h;cases h

end Go.Proofs.Ytndfddejdfnleaa.P
