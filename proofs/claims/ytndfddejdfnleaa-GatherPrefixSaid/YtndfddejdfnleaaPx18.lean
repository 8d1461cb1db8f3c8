-- Printed for this claim by xprint.py of this session: contracts of this session's own stand in for what the print does not take
import Derived.Test.YtndfddejdfnleaaPx0
import Derived.Test.YtndfddejdfnleaaPx8
import Derived.Test.YtndfddejdfnleaaPx10
import Derived.Test.YtndfddejdfnleaaPx12
namespace Go.Proofs.Ytndfddejdfnleaa.P
open Go.RowKit Go.Proofs.YtndfddejdfnleaaW.PrintWords Go.Proofs.YtndfddejdfnleaaW.PrintLast Go.Proofs.YtndfddejdfnleaaW.PrintMore
attribute [local go_sem] max2_int min2_int max_two min_two max_three min_three max_four min_four   -- for this text's walks alone
set_option linter.unusedVariables false
set_option linter.unusedSimpArgs false

/-! ### wigwaglaw17_GatherPrefix: function 4 -/
section
variable {α : Type} {d : Kd α} {e t base g k : Nat} {ok : Nat → Prop} {w W W1 : World} {v x0 x1 x2 x3 x4 a0 a1 a2 a3 a4 : Value} {xs : List α} {cs : Array Value}
/-- A variable of five cells,written whole. -/
def pre_set5 (W : World) (g : Nat) (a0 a1 a2 a3 a4 : Value) : World:=((((W.setCell ⟨g,0,none⟩ a0).setCell ⟨g,1,none⟩ a1).setCell ⟨g,2,none⟩ a2).setCell ⟨g,3,none⟩ a3).setCell ⟨g,4,none⟩ a4
theorem pre_set5_fold (W : World) (g : Nat) (a0 a1 a2 a3 a4 : Value) : ((((W.setCell ⟨g,0,none⟩ a0).setCell ⟨g,1,none⟩ a1).setCell ⟨g,2,none⟩ a2).setCell ⟨g,3,none⟩ a3).setCell ⟨g,4,none⟩ a4 = pre_set5 W g a0 a1 a2 a3 a4:=rfl
theorem pre_blk5 (hw : pre_set5 W g a0 a1 a2 a3 a4 = W1) (h : W.heap[g]? = some (.cells #[x0,x1,x2,x3,x4] t (0,0))) : W1.heap[g]? = some (.cells #[a0,a1,a2,a3,a4] t (0,0)):=by
 rw [← hw]
 exact blk_put (cs':=#[a0,a1,a2,a3,a4]) (blk_put (cs':=#[a0,a1,a2,a3,x4]) (blk_put (cs':=#[a0,a1,a2,x3,x4]) (blk_put (cs':=#[a0,a1,x2,x3,x4]) (blk_put (cs':=#[a0,x1,x2,x3,x4]) h 0 a0 rfl) 1 a1 rfl) 2 a2 rfl) 3 a3 rfl) 4 a4 rfl
theorem pre_far5 (hw : pre_set5 W g a0 a1 a2 a3 a4 = W1) (hne : k ≠ g) (h : W.heap[k]? = some (.cells cs t (0,0))) : W1.heap[k]? = some (.cells cs t (0,0)):=by
 rw [← hw]
 exact blk_far (blk_far (blk_far (blk_far (blk_far h hne a0) hne a1) hne a2) hne a3) hne a4
theorem pre_size5 (hw : pre_set5 W g a0 a1 a2 a3 a4 = W1) : W.heap.size = W1.heap.size:=by rw [← hw];simp [pre_set5,World.setCell]
theorem pre_V5o (hw : pre_set5 W g a0 a1 a2 a3 a4 = W1) (hok : ∀ k,ok k → k ≠ g) (h : Kd.V d e W base ok v xs) : Kd.V d e W1 base ok v xs:=by
 rw [← hw]
 exact Kd.V_far (p:=⟨g,4,none⟩) (Kd.V_far (p:=⟨g,3,none⟩) (Kd.V_far (p:=⟨g,2,none⟩) (Kd.V_far (p:=⟨g,1,none⟩) (Kd.V_far (p:=⟨g,0,none⟩) h hok a0) hok a1) hok a2) hok a3) hok a4
theorem pre_R5o (hw : pre_set5 W g a0 a1 a2 a3 a4 = W1) (hok : ∀ k,ok k → k ≠ g) (h : Kd.R d e W base ok v xs) : Kd.R d e W1 base ok v xs:=by
 rw [← hw]
 exact Kd.R_far (p:=⟨g,4,none⟩) (Kd.R_far (p:=⟨g,3,none⟩) (Kd.R_far (p:=⟨g,2,none⟩) (Kd.R_far (p:=⟨g,1,none⟩) (Kd.R_far (p:=⟨g,0,none⟩) h hok a0) hok a1) hok a2) hok a3) hok a4
theorem pre_below5 (hw : pre_set5 W g a0 a1 a2 a3 a4 = W1) (hg : w.heap.size ≤ g) (h : Below w.heap.size w W) : Below w.heap.size w W1:=by
 rw [← hw]
 exact below_set (below_set (below_set (below_set (below_set h hg) hg) hg) hg) hg
end
/-- Where a part begins,and where it ends. -/
def pre_from (p : List Int) (f : Int) : Int:=mn (mx f 0) (p.length : Int)
def pre_to (p : List Int) (f s : Int) : Int:=mn (mx s 0) ((p.length : Int) - pre_from p f) + pre_from p f
/-- What is read is a beginning of the text. -/
def pre_ok (p got b : List Int) (over : Bool) (rd : Int) : Prop :=
 got.length + b.length ≤ p.length ∧ got ++ b = p.take (got.length + b.length) ∧ (over = true → got.length + b.length = p.length) ∧ (b.length : Int) ≤ mx rd 0
instance (p got b : List Int) (over : Bool) (rd : Int) : Decidable (pre_ok p got b over rd):=by unfold pre_ok;infer_instance
/-- The parts: what stands behind them,and what was read. -/
def pre_go (k : Nat) (p : List Int) (ps : List S30) : Nat → Nat → Int → List S41 → List Int → Bool → Int → List Int → Option (Int × List S41 × List Int × Bool × Int × List Int)
 | 0,_,nx,K,D,en,sz,got => some (nx,K,D,en,sz,got)
 | n + 1,i,nx,K,D,en,sz,got =>
  if (i : Int) < (ps.length : Int) then
   (gather_Put.f k nx K D en sz (pre_from p (rd_T30 ps (i : Int)).f0) ((p.take (pre_to p (rd_T30 ps (i : Int)).f0 (rd_T30 ps (i : Int)).f1).toNat).drop (pre_from p (rd_T30 ps (i : Int)).f0).toNat) (pre_to p (rd_T30 ps (i : Int)).f0 (rd_T30 ps (i : Int)).f1 == (p.length : Int))).bind fun x =>
    if x.2.2.2.2.2 = 0 then
     (gather_Read.f k x.1 x.2.1 x.2.2.1 x.2.2.2.1 x.2.2.2.2.1 (rd_T30 ps (i : Int)).f2).bind fun y =>
      if pre_ok p got y.2.2.2.2.2.1 y.2.2.2.2.2.2 (rd_T30 ps (i : Int)).f2 then pre_go k p ps n (i + 1) y.1 y.2.1 y.2.2.1 y.2.2.2.1 y.2.2.2.2.1 (got ++ y.2.2.2.2.2.1) else none
    else none
  else some (nx,K,D,en,sz,got)
/-- The law: parts of a text are read as its beginning,and at last all of it. -/
def wigwaglaw17_GatherPrefix.f (k : Nat) (l0 : List Int) (l1 : List S30) : Option Bool :=
 if (l0.length : Int) > 300 then some true else
 (pre_go k l0 l1 50 0 0 [] [] false 0 []).bind fun y => (gather_Put.f k y.1 y.2.1 y.2.2.1 y.2.2.2.1 y.2.2.2.2.1 0 l0 true).bind fun x =>
  if x.2.2.2.2.2 = 0 then (gather_Read.f k x.1 x.2.1 x.2.2.1 x.2.2.2.1 x.2.2.2.2.1 1000).bind fun z => if z.2.2.2.2.2.2 = true ∧ y.2.2.2.2.2 ++ z.2.2.2.2.2.1 = l0 ∧ y.2.2.2.2.2.length ≤ 300 ∧ z.2.2.2.2.2.1.length ≤ 300 then some true else none else none
theorem pre_bounds (p : List Int) (f s : Int) : 0 ≤ pre_from p f ∧ pre_from p f ≤ pre_to p f s ∧ pre_to p f s ≤ (p.length : Int):=by
 have h1 : 0 ≤ pre_from p f ∧ pre_from p f ≤ (p.length : Int):=by unfold pre_from mn mx;split <;> split <;> omega
 have h2 : 0 ≤ mn (mx s 0) ((p.length : Int) - pre_from p f) ∧ mn (mx s 0) ((p.length : Int) - pre_from p f) ≤ (p.length : Int) - pre_from p f:=by unfold mn mx;(repeat' split) <;> omega
 unfold pre_to
 omega
set_option maxHeartbeats 8000000 in
set_option maxRecDepth 100000 in
theorem wigwaglaw17_GatherPrefix.calls (k : Nat) (A0 : Option Addr) (c0 : Nat) (l0 : List Int) (A1 : Option Addr) (c1 : Nat) (l1 : List S30) (r : Bool) (w : World) (hr0 : Kd.C (Kd.int .u8) w A0 l0.length l0) (hc0 : l0.length ≤ c0) (hr1 : Kd.C k30 w A1 l1.length l1) (hc1 : l1.length ≤ c1) (h : wigwaglaw17_GatherPrefix.f k l0 l1 = some r) :
  Calls Try.prog 4 #[.slice A0 l0.length c0,.slice A1 l1.length c1] w fun e w' => e = .returned (.bool r) ∧ Below w.heap.size w w':=by
 have HR0:=Aside0.mk hr0
 have HC0:=Aside0.mk hc0
 have HR1:=Aside0.mk hr1
 have HC1:=Aside0.mk hc1
 have HB:=Aside0.mk (Below.refl w.heap.size w)
 clear hr0 hc0 hr1 hc1
 unfold wigwaglaw17_GatherPrefix.f at h
 by_cases c1_ : (l0.length : Int) > 300
 case pos =>
  rw [if_pos c1_] at h
  obtain rfl:=Option.some.inj h
  have k0 : decide ((l0.length : Int) > 300) = true:=decide_eq_true c1_
  have k1 : decide ((300 : Int) < (l0.length : Int)) = true:=decide_eq_true c1_
  have k2 : decide (300 < l0.length) = true:=decide_eq_true (by omega)
  clear c1_ h
  go_enter Try.func4,Try.ntmps4
  go_wp2_with (go_at_call 9;refine (wigwaglaw17_awake.calls true _ rfl).mono ?_;rintro e_ w1 ⟨rfl,hb⟩;have HB2:=Aside0.mk (below_step HB.out hb);clear HB hb;have HB:=HB2;clear HB2)
  go_ret
  exact ⟨rfl,HB.out⟩
 rw [if_neg c1_] at h
 have k0 : decide ((l0.length : Int) > 300) = false:=decide_eq_false c1_
 have k1 : decide ((300 : Int) < (l0.length : Int)) = false:=decide_eq_false c1_
 have k2 : decide (300 < l0.length) = false:=decide_eq_false (by omega)
 have HN:=Aside0.mk (show l0.length ≤ 300 by omega)
 clear c1_
 obtain ⟨⟨nx9,K9,D9,en9,sz9,got9⟩,P1,h⟩:=Option.bind_eq_some_iff.mp h
 obtain ⟨⟨x1,x2,x3,x4,x5,x6⟩,P2,h⟩:=Option.bind_eq_some_iff.mp h
 dsimp only at P2 h
 by_cases c2_ : x6 = 0
 case neg => rw [if_neg c2_] at h;cases h
 rw [if_pos c2_] at h
 subst c2_
 obtain ⟨⟨z1,z2,z3,z4,z5,z6,z7⟩,P3,h⟩:=Option.bind_eq_some_iff.mp h
 dsimp only at P3 h
 by_cases c3_ : z7 = true ∧ got9 ++ z6 = l0 ∧ got9.length ≤ 300 ∧ z6.length ≤ 300
 case neg => rw [if_neg c3_] at h;cases h
 rw [if_pos c3_] at h
 obtain rfl:=Option.some.inj h
 obtain ⟨rfl,c4_,c5_⟩:=c3_
 replace P1:=Aside0.mk P1
 replace P2:=Aside0.mk P2
 replace P3:=Aside0.mk P3
 have P4:=Aside0.mk c4_
 have P5:=Aside0.mk c5_
 clear h c4_ c5_
 go_enter Try.func4,Try.ntmps4
 go_upto_region 4 with (go_at_call 9;refine (wigwaglaw17_awake.calls true _ rfl).mono ?_;rintro e_ w1 ⟨rfl,hb⟩;have HB2:=Aside0.mk (below_step HB.out hb);clear HB hb;have HB:=HB2;clear HB2)
 obtain ⟨pz,hpz⟩ : ∃ n_ : Nat,n_ = w.heap.size:=⟨_,rfl⟩
 have HCH : Aside0 (pz ≤ pz):=⟨Nat.le_refl _⟩
 have HS : Aside0 (pz ≤ w1.heap.size):=⟨by rw [hpz];exact HB.out.size⟩
 go_upto_region 5 with (first | ((with_reducible refine gate_dst (N:=6) rfl ?_);refine box_event ?hg (N:=6) ?hd (cs:=#[.int .u64 0,.slice none 0 0,.slice none 0 0,.bool false,.int .u64 0]) (t:=28) ?hr ?_;(case hd => rfl);(case hg => rfl);(case hr => first | (go_simp;done) | (go_simp;rfl));intro g6 hg w2 hbox hb;have GE_g6:=Aside0.mk (show w.heap.size ≤ g6 by rw [hg];exact HB.out.size);replace HCH:=Aside0.mk (And.intro HCH.out (show pz ≤ g6 by rw [hg];exact HS.out));have n1_:=Aside0.mk (below_step HB.out hb);have n2_:=Aside0.mk ((Nat.le_trans (show _ ≤ _ from HS.out) hb.size : pz ≤ w2.heap.size));clear HB HS;have HB:=n1_;have HS:=n2_;clear n1_ n2_;have BK_g6:=Aside0.mk hbox;clear hbox hb hg))
 clear HS HCH hpz pz
 go_upto_block 0 with fail
 go_cut [7] from 26 to 125 (fun v7 wc => ∃ vk vd vg : Value,vg = v7 ∧ Aside0 (Kd.V k41 41 wc w.heap.size (fun k_ => k_ ≠ g6 ∧ some k_ ≠ (vg : Value).ownBlock) (vk) (K9)) ∧ Aside0 (Kd.V (Kd.int .u8) 5 wc w.heap.size (fun k_ => k_ ≠ g6 ∧ some k_ ≠ (vg : Value).ownBlock) (vd) (D9)) ∧ Aside0 (Kd.R (Kd.int .u8) 5 wc w.heap.size (fun k_ => k_ ≠ g6) (vg) (got9)) ∧ Aside0 (wc.heap[g6]? = some (.cells #[.int .u64 nx9,vk,vd,.bool en9,.int .u64 sz9] 28 (0,0))) ∧ Aside0 (Below w.heap.size w wc))
 case first =>
  go_wp2_with fail
  go_loopg [7,8] 50 (fun kq v7 v8 w' => ∃ (i nx : Int) (ks : List S41) (D : List Int) (en : Bool) (sz : Int) (got : List Int) (vk vd vg : Value),vg = v7 ∧ v8 = .int .i64 i ∧ Aside0 (0 ≤ i ∧ i + kq = 50) ∧ Aside0 (pre_go k l0 l1 kq i.toNat nx ks D en sz got = some (nx9,K9,D9,en9,sz9,got9)) ∧ Aside0 (Kd.V k41 41 w' w.heap.size (fun k_ => k_ ≠ g6 ∧ some k_ ≠ (vg : Value).ownBlock) (vk) (ks)) ∧ Aside0 (Kd.V (Kd.int .u8) 5 w' w.heap.size (fun k_ => k_ ≠ g6 ∧ some k_ ≠ (vg : Value).ownBlock) (vd) (D)) ∧ Aside0 (Kd.R (Kd.int .u8) 5 w' w.heap.size (fun k_ => k_ ≠ g6) (vg) (got)) ∧ Aside0 (w'.heap[g6]? = some (.cells #[.int .u64 nx,vk,vd,.bool en,.int .u64 sz] 28 (0,0))) ∧ Aside0 (Below w.heap.size w w'))
  case atStart => exact ⟨0,0,[],[],false,0,[],_,_,_,rfl,rfl,⟨by simp⟩,P1,⟨Kd.V_nil _ _ _ _ _⟩,⟨Kd.V_nil _ _ _ _ _⟩,⟨Kd.R_nil _ _ _ _ _⟩,BK_g6,HB⟩
  case round =>
  clear BK_g6 HB P1 P2 P3 P4 P5
  obtain ⟨i,nx,ks,D,en,sz,got,vk,vd,vg,rfl,rfl,HI,HQ,O_k,O_d,O_g,BK_g6,HB⟩:=hrel
  cases gk with
  | zero =>
   have hq:=HQ.out
   rw [pre_go] at hq
   simp only [Option.some.injEq,Prod.mk.injEq] at hq
   obtain ⟨rfl,rfl,rfl,rfl,rfl,rfl⟩:=hq
   have kt : decide (i < 50) = false:=decide_eq_false (by have h_:=HI.out;omega)
   clear HI HQ
   by_cases ci : i < (l1.length : Int)
   ·have cb1 : decide (i < (l1.length : Int)) = true:=decide_eq_true ci
    go_wp2
    go_meet
    case rel => exact ⟨_,_,_,rfl,O_k,O_d,O_g,BK_g6,HB⟩
   ·have cb1 : decide (i < (l1.length : Int)) = false:=decide_eq_false ci
    go_wp2
    go_meet
    case rel => exact ⟨_,_,_,rfl,O_k,O_d,O_g,BK_g6,HB⟩
  | succ k1 =>
   have kt : decide (i < 50) = true:=decide_eq_true (by have h_:=HI.out;omega)
   have hq:=HQ.out
   have p0_ : 0 ≤ i:=HI.out.1
   have hi2 : ((i.toNat : Nat) : Int) = i:=by omega
   rw [pre_go,hi2] at hq
   by_cases ci : i < (l1.length : Int)
   case neg =>
    rw [if_neg ci] at hq
    simp only [Option.some.injEq,Prod.mk.injEq] at hq
    obtain ⟨rfl,rfl,rfl,rfl,rfl,rfl⟩:=hq
    have cb1 : decide (i < (l1.length : Int)) = false:=decide_eq_false ci
    clear HI HQ ci p0_ hi2
    go_wp2
    go_meet
    case rel => exact ⟨_,_,_,rfl,O_k,O_d,O_g,BK_g6,HB⟩
   case pos =>
    have cb1 : decide (i < (l1.length : Int)) = true:=decide_eq_true ci
    rw [if_pos ci] at hq
    obtain ⟨ad,e_,hx0,hx1,hx2⟩:=at_T30 HR1.out i p0_ ci
    subst e_
    obtain ⟨pt,hpt⟩ : ∃ y_ : S30,rd_T30 l1 i = y_:=⟨_,rfl⟩
    rw [hpt] at hx0 hx1 hx2 hq
    obtain ⟨pf,ps,pr⟩:=pt
    dsimp only at hx0 hx1 hx2 hq
    have HX0:=Aside0.mk hx0
    have HX1:=Aside0.mk hx1
    have HX2:=Aside0.mk hx2
    have qi1 : (0 ≤ i) = True:=eq_true p0_
    have qi2 : (i < (l1.length : Int)) = True:=eq_true ci
    have hw : wrap64 (i + 1) = i + 1:=by have h2:=HI.out;unfold wrap64;omega
    have HI2:=Aside0.mk (show (wrap64 (i + 1)).toNat = i.toNat + 1 by rw [hw];have h2:=HI.out;omega)
    have hbd:=pre_bounds l0 pf ps
    unfold pre_to at hbd hq
    unfold pre_from at hbd hq
    obtain ⟨m1,hm1⟩ : ∃ y_ : Int,mx pf 0 = y_:=⟨_,rfl⟩
    rw [hm1] at hbd hq
    obtain ⟨fr,hfr⟩ : ∃ y_ : Int,mn m1 (l0.length : Int) = y_:=⟨_,rfl⟩
    rw [hfr] at hbd hq
    obtain ⟨m2,hm2⟩ : ∃ y_ : Int,mx ps 0 = y_:=⟨_,rfl⟩
    rw [hm2] at hbd hq
    obtain ⟨df,hdf⟩ : ∃ y_ : Int,(l0.length : Int) - fr = y_:=⟨_,rfl⟩
    rw [hdf] at hbd hq
    obtain ⟨m3,hm3⟩ : ∃ y_ : Int,mn m2 df = y_:=⟨_,rfl⟩
    rw [hm3] at hbd hq
    obtain ⟨te,hte⟩ : ∃ y_ : Int,m3 + fr = y_:=⟨_,rfl⟩
    rw [hte] at hbd hq
    have HBD:=Aside0.mk hbd
    have hn_:=HN.out
    have e1_ : (if pf < 0 then (0 : Int) else pf) = m1:=hm1
    have e2_ : (if (l0.length : Int) < m1 then (l0.length : Int) else m1) = fr:=hfr
    have e3_ : (if ps < 0 then (0 : Int) else ps) = m2:=hm2
    have e4_ : wrap64 ((l0.length : Int) - fr) = df:=by unfold wrap64;omega
    have e5_ : (if df < m2 then df else m2) = m3:=hm3
    have e6_ : wrap64 (m3 + fr) = te:=by rw [hte];unfold wrap64;omega
    have e7_ : IntKind.u64.wrap fr = fr:=by rw [IntKind.wrap_u64];omega
    obtain ⟨fb,hfb⟩ : ∃ y_ : Bool,(te == (l0.length : Int)) = y_:=⟨_,rfl⟩
    rw [hfb] at hq
    obtain ⟨q,hqq⟩ : ∃ y_ : List Int,(l0.take te.toNat).drop fr.toNat = y_:=⟨_,rfl⟩
    rw [hqq] at hq
    obtain ⟨⟨n1,K1,D1,en1,sz1,cd⟩,hP,hq⟩:=Option.bind_eq_some_iff.mp hq
    dsimp only at hP hq
    by_cases cc : cd = 0
    case neg => rw [if_neg cc] at hq;cases hq
    rw [if_pos cc] at hq
    subst cc
    obtain ⟨⟨n2,K2,D2,en2,sz2,b,ov⟩,hR,hq⟩:=Option.bind_eq_some_iff.mp hq
    dsimp only at hR hq
    by_cases co : pre_ok l0 got b ov pr
    case neg => rw [if_neg co] at hq;cases hq
    rw [if_pos co] at hq
    obtain ⟨gt,hgt⟩ : ∃ y_ : List Int,got ++ b = y_:=⟨_,rfl⟩
    rw [hgt] at hq
    have HP:=Aside0.mk hP
    have HR:=Aside0.mk hR
    have HQ2:=Aside0.mk hq
    have HGT:=Aside0.mk hgt
    have HGL:=Aside0.mk (show gt.length = got.length + b.length by rw [← hgt,List.length_append])
    have HOK:=Aside0.mk (show gt.length ≤ l0.length ∧ gt = l0.take gt.length ∧ (ov = true → gt.length = l0.length) ∧ (b.length : Int) ≤ mx pr 0 by unfold pre_ok at co;rw [hgt] at co;rw [HGL.out];exact co)
    obtain ⟨i0_,hi0_,_,hsz_,_⟩:=info_parts info5
    have hcut_:=cut_mid (P:=Try.prog) 23 5 .i64 .i64 Try.underlying23 hi0_ 1 hsz_ A0 l0.length c0 fr te hbd.1 hbd.2.1 hbd.2.2 HC0.out
    have hmid_:=Kd.C_mid (lo:=fr.toNat) (hi:=te.toNat) HR0.out (by omega) (by omega) HC0.out
    have hln_ : ((l0.take te.toNat).drop fr.toNat).length = te.toNat - fr.toNat:=by rw [List.length_drop,List.length_take];omega
    rw [hqq] at hmid_ hln_
    rw [← hln_,Nat.mul_one] at hcut_
    rw [show (Kd.int .u8).sz = 1 from rfl,Nat.mul_one] at hmid_
    obtain ⟨Ac,hAc⟩ : ∃ y_ : Option Addr,(if c0 = fr.toNat then A0 else A0.map (·.add fr.toNat)) = y_:=⟨_,rfl⟩
    rw [hAc] at hcut_ hmid_
    obtain ⟨cq,hcq⟩ : ∃ y_ : Nat,c0 - fr.toNat = y_:=⟨_,rfl⟩
    rw [hcq] at hcut_
    have HMID:=Aside0.mk hmid_
    have HCQ:=Aside0.mk (show q.length ≤ cq by have h_:=HC0.out;omega)
    have qo1 : (0 ≤ fr) = True:=eq_true hbd.1
    have qo2 : (fr ≤ te) = True:=eq_true hbd.2.1
    have qo3 : (te ≤ (l0.length : Int)) = True:=eq_true hbd.2.2
    clear hmid_ hAc hcq hln_ hi0_ hsz_ hbd hn_ hm1 hfr hm2 hdf hm3 hte hqq hq hP hR co hgt HQ hpt ci p0_ hi2
    obtain ⟨pz,hpz⟩ : ∃ n_ : Nat,n_ = wr.heap.size:=⟨_,rfl⟩
    obtain ⟨Ag,pg,eo⟩:=Kd.R_slice O_g.out
    subst eo
    have HVG:=Aside0.mk (Kd.R_lt O_g.out)
    rw [← hpz] at HVG
    replace O_k:=Aside0.mk (Kd.V_mono (Kd.V_bound O_k.out) (ok':=(fun k_ => (k_ ≠ g6 ∧ some k_ ≠ (.slice Ag got.length pg : Value).ownBlock) ∧ k_ < pz)) (fun k_ hk_ => ⟨hk_.1,by rw [hpz];exact hk_.2⟩))
    obtain ⟨A_k,p_k,eo⟩:=Kd.V_slice O_k.out
    subst eo
    replace O_d:=Aside0.mk (Kd.V_mono (Kd.V_bound O_d.out) (ok':=(fun k_ => (k_ ≠ g6 ∧ some k_ ≠ (.slice Ag got.length pg : Value).ownBlock) ∧ k_ < pz)) (fun k_ hk_ => ⟨hk_.1,by rw [hpz];exact hk_.2⟩))
    obtain ⟨A_d,p_d,eo⟩:=Kd.V_slice O_d.out
    subst eo
    replace O_g:=Aside0.mk (Kd.R_mono (Kd.R_bound O_g.out) (ok':=(fun k_ => k_ ≠ g6 ∧ k_ < pz)) (fun k_ hk_ => ⟨hk_.1,by rw [hpz];exact hk_.2.2.1⟩))
    have HCH:=Aside0.mk (show g6 < pz by rw [hpz];exact blk_lt BK_g6.out)
    have HS:=Aside0.mk (show pz ≤ wr.heap.size by rw [hpz];exact Nat.le_refl _)
    clear hpz
    replace hx0:=(HB.out.cell (World.block_lt_of_cell? w _ HX0.out)).trans HX0.out
    replace hx1:=(HB.out.cell (World.block_lt_of_cell? w _ HX1.out)).trans HX1.out
    clear hx2
    go_upto_region 11 with fail
    (try simp only [e1_,e2_,e3_,e4_,e5_,e6_])
    clear hx0 hx1 e1_ e2_ e3_ e4_ e5_ e6_
    have n3_:=Aside0.mk (below_drew1 HB.out)
    have n4_:=Aside0.mk ((show pz ≤ wr.drew.heap.size from HS.out))
    have n5_:=Aside0.mk (blk_drew BK_g6.out)
    have n6_:=Aside0.mk (Kd.V_drew O_k.out)
    have n7_:=Aside0.mk (Kd.V_drew O_d.out)
    have n8_:=Aside0.mk (Kd.R_drew O_g.out)
    clear HB HS BK_g6 O_k O_d O_g
    have HB:=n3_
    have HS:=n4_
    have BK_g6:=n5_
    have O_k:=n6_
    have O_d:=n7_
    have O_g:=n8_
    clear n3_ n4_ n5_ n6_ n7_ n8_
    (try simp only [Act.put,List.setIfInBounds_toArray,List.set_cons_zero,List.set_cons_succ])
    refine start_ (n:=18) (S:=fun w' => w'.cell? ⟨g6,0,none⟩ = some (.int .u64 nx) ∧ w'.cell? ⟨g6,1,none⟩ = some (.slice A_k ks.length p_k) ∧ w'.cell? ⟨g6,2,none⟩ = some (.slice A_d D.length p_d) ∧ w'.cell? ⟨g6,3,none⟩ = some (.bool en) ∧ w'.cell? ⟨g6,4,none⟩ = some (.int .u64 sz)) (ds:=[16]) #[false,false,false,false,false,false,false,false,false,false,false,false,false,false,false,false,false,false] (by kernel_rfl) rfl rfl ⟨(blk_cell BK_g6.out 0).trans rfl,(blk_cell BK_g6.out 1).trans rfl,(blk_cell BK_g6.out 2).trans rfl,(blk_cell BK_g6.out 3).trans rfl,(blk_cell BK_g6.out 4).trans rfl⟩ (fun hHeld => ?_)
    generalize wr.drew = w5 at HB HS BK_g6 O_k O_d O_g hHeld ⊢
    refine pure_ (i:=1) (N:=some 60) (v:=?_) (a':=?_) #[false,true,false,false,false,false,false,false,false,false,false,false,false,false,false,false,false,false] rfl rfl (by kernel_rfl) (fun _ _ _ h => h) (Or.inl ⟨by rfl,?_⟩) ?_ ?_
    rotate_left
    ·intro w'
     go_simp
     with_reducible rfl
    rotate_left
    ·simp only [Act.put,List.setIfInBounds_toArray,List.set_cons_zero,List.set_cons_succ,i64_w,i32_w]
     rfl
    refine pure_ (i:=2) (N:=some 61) (v:=?_) (a':=?_) #[false,true,true,false,false,false,false,false,false,false,false,false,false,false,false,false,false,false] rfl rfl (by kernel_rfl) (fun _ _ _ h => h) (Or.inl ⟨by rfl,?_⟩) ?_ ?_
    rotate_left
    ·intro w'
     go_simp
     with_reducible rfl
    rotate_left
    ·simp only [Act.put,List.setIfInBounds_toArray,List.set_cons_zero,List.set_cons_succ,i64_w,i32_w]
     rfl
    refine pure_ (i:=3) (N:=some 62) (v:=?_) (a':=?_) #[false,true,true,true,false,false,false,false,false,false,false,false,false,false,false,false,false,false] rfl rfl (by kernel_rfl) (fun _ _ _ h => h) (Or.inl ⟨by rfl,?_⟩) ?_ ?_
    rotate_left
    ·intro w'
     go_simp
     with_reducible rfl
    rotate_left
    ·simp only [Act.put,List.setIfInBounds_toArray,List.set_cons_zero,List.set_cons_succ,i64_w,i32_w]
     rfl
    refine pure_ (i:=4) (N:=some 63) (v:=?_) (a':=?_) #[false,true,true,true,true,false,false,false,false,false,false,false,false,false,false,false,false,false] rfl rfl (by kernel_rfl) (fun _ _ _ h => h) (Or.inl ⟨by rfl,?_⟩) ?_ ?_
    rotate_left
    ·intro w'
     go_simp
     with_reducible rfl
    rotate_left
    ·simp only [Act.put,List.setIfInBounds_toArray,List.set_cons_zero,List.set_cons_succ,i64_w,i32_w]
     rfl
    refine pure_ (i:=5) (N:=some 64) (v:=?_) (a':=?_) #[false,true,true,true,true,true,false,false,false,false,false,false,false,false,false,false,false,false] rfl rfl (by kernel_rfl) (fun _ _ _ h => h) (Or.inl ⟨by rfl,?_⟩) ?_ ?_
    rotate_left
    ·intro w'
     go_simp
     with_reducible rfl
    rotate_left
    ·simp only [Act.put,List.setIfInBounds_toArray,List.set_cons_zero,List.set_cons_succ,i64_w,i32_w]
     rfl
    refine pure_ (i:=6) (N:=some 65) (v:=?_) (a':=?_) #[false,true,true,true,true,true,true,false,false,false,false,false,false,false,false,false,false,false] rfl rfl (by kernel_rfl) (fun _ _ _ h => h) (Or.inl ⟨by rfl,?_⟩) ?_ ?_
    rotate_left
    ·intro w'
     go_simp
     with_reducible rfl
    rotate_left
    ·simp only [Act.put,List.setIfInBounds_toArray,List.set_cons_zero,List.set_cons_succ,i64_w,i32_w]
     rfl
    refine pure_ (i:=7) (N:=some 66) (v:=?_) (a':=?_) #[false,true,true,true,true,true,true,true,false,false,false,false,false,false,false,false,false,false] rfl rfl (by kernel_rfl) (fun _ _ _ h => h) (Or.inl ⟨by rfl,?_⟩) ?_ ?_
    rotate_left
    ·intro w'
     go_simp
     with_reducible rfl
    rotate_left
    ·simp only [Act.put,List.setIfInBounds_toArray,List.set_cons_zero,List.set_cons_succ,i64_w,i32_w]
     rfl
    refine pure_ (i:=8) (N:=some 67) (v:=?_) (a':=?_) #[false,true,true,true,true,true,true,true,true,false,false,false,false,false,false,false,false,false] rfl rfl (by kernel_rfl) (fun _ _ _ h => h) (Or.inl ⟨by rfl,?_⟩) ?_ ?_
    rotate_left
    ·intro w'
     go_simp
     with_reducible rfl
    rotate_left
    ·simp only [Act.put,List.setIfInBounds_toArray,List.set_cons_zero,List.set_cons_succ,i64_w,i32_w]
     rfl
    refine pure_ (i:=9) (N:=some 68) (v:=?_) (a':=?_) #[false,true,true,true,true,true,true,true,true,true,false,false,false,false,false,false,false,false] rfl rfl (by kernel_rfl) (fun _ _ _ h => h) (Or.inl ⟨by rfl,?_⟩) ?_ ?_
    rotate_left
    ·intro w'
     go_simp
     with_reducible rfl
    rotate_left
    ·simp only [Act.put,List.setIfInBounds_toArray,List.set_cons_zero,List.set_cons_succ,i64_w,i32_w]
     rfl
    refine pure_ (i:=10) (N:=some 69) (v:=?_) (a':=?_) #[false,true,true,true,true,true,true,true,true,true,true,false,false,false,false,false,false,false] rfl rfl (by kernel_rfl) (fun _ _ _ h => h) (Or.inl ⟨by rfl,?_⟩) ?_ ?_
    rotate_left
    ·intro w'
     go_simp
     with_reducible rfl
    rotate_left
    ·simp only [Act.put,List.setIfInBounds_toArray,List.set_cons_zero,List.set_cons_succ,i64_w,i32_w]
     rfl
    refine take_ (i:=0) (N:=some 59) (v:=?_) (a':=?_) #[true,true,true,true,true,true,true,true,true,true,true,false,false,false,false,false,false,false] rfl rfl (by kernel_rfl) (fun _ _ _ h => h) (Or.inl ⟨by rfl,?_⟩) hHeld ?_ ?_
    rotate_left
    ·rintro w' ⟨s0,s1,s2,s3,s4⟩
     go_simp
     with_reducible rfl
    rotate_left
    ·simp only [Act.put,List.setIfInBounds_toArray,List.set_cons_zero,List.set_cons_succ,i64_w,i32_w]
     rfl
    refine join_ (σ:=Nat × Value × Value) 2 #[true,true,true,true,true,true,true,true,true,true,true,true,true,true,true,true,false,false] (fun s_ => [(70,.tuple #[.agg #[.int .u64 n1,s_.2.1,s_.2.2,.bool en1,.int .u64 sz1],.int .i64 0]),(58,.tuple #[.agg #[.int .u64 n1,s_.2.1,s_.2.2,.bool en1,.int .u64 sz1],.int .i64 0]),(71,.agg #[.int .u64 n1,s_.2.1,s_.2.2,.bool en1,.int .u64 sz1]),(72,.int .i64 0),(11,.pointer (some ⟨s_.1,0,none⟩))]) (fun s_ w_ => w_.heap[g6]? = some (.cells #[.int .u64 nx,.slice A_k ks.length p_k,.slice A_d D.length p_d,.bool en,.int .u64 sz] 28 (0,0)) ∧ w_.heap[s_.1]? = some (.cells #[.int .u64 0,.slice none 0 0,.slice none 0 0,.bool false,.int .u64 0] 28 (0,0)) ∧ Kd.V k41 41 w_ w.heap.size (fun k_ => pz ≤ k_ ∧ k_ ≠ s_.1) (s_.2.1) (K1) ∧ Kd.V (Kd.int .u8) 5 w_ w.heap.size (fun k_ => pz ≤ k_ ∧ k_ ≠ s_.1) (s_.2.2) (D1) ∧ Kd.R (Kd.int .u8) 5 w_ w.heap.size (fun k_ => k_ ≠ g6 ∧ k_ < pz) (.slice Ag got.length pg) (got) ∧ w.heap.size ≤ s_.1 ∧ pz ≤ s_.1 ∧ g6 ≠ s_.1 ∧ pz ≤ w_.heap.size ∧ Below w.heap.size w w_) ?_ ?_
    rotate_left
    ·intro hCont
     refine two_ (i:=11) (j:=15) (Ni:=some 70) (Nj:=some 11) #[true,true,true,true,true,true,true,true,true,true,true,true,false,false,false,false,false,false] #[true,true,true,true,true,true,true,true,true,true,true,false,false,false,false,true,false,false] rfl rfl rfl rfl (by kernel_rfl) (by decide) (by decide) (fun K hK => ?_) (fun K hK => ?_)
     ·skip
      refine goes_ Try.func10 (by kernel_rfl) rfl #[.agg #[.int .u64 nx,.slice A_k ks.length p_k,.slice A_d D.length p_d,.bool en,.int .u64 sz],.int .u64 fr,.slice Ac q.length cq,.bool fb] (by rfl) rfl rfl (by (try simp only [List.map_toArray,List.map_cons,List.map_nil]);first | done | rfl) ?_
      refine (gather_Put.calls k nx _ _ ks _ _ D en sz fr _ _ q fb _ _ _ _ _ _ _ (Kd.V_reads' O_k.out).2.2 (Kd.V_reads' O_k.out).2.1 (Kd.V_reads' O_d.out).2.2 (Kd.V_reads' O_d.out).2.1 (Kd.C_below HMID.out HB.out) HCQ.out HP.out).mono ?_
      rintro e_ w6c ⟨u1,u2,rfl,ho1,ho2,hb⟩
      refine ⟨_,rfl,?_⟩
      have O_k1:=Aside0.mk (Kd.R_V (base':=w.heap.size) (Kd.R_mono (Kd.R_bound ho1) (ok':=fun k_ => pz ≤ k_ ∧ k_ ≠ g6) (fun k_ hk_ => ⟨Nat.le_trans HS.out hk_.2.1,fun he_ => by have h_:=blk_lt BK_g6.out;have h2_:=hk_.2.1;omega⟩)))
      have O_d1:=Aside0.mk (Kd.R_V (base':=w.heap.size) (Kd.R_mono (Kd.R_bound ho2) (ok':=fun k_ => pz ≤ k_ ∧ k_ ≠ g6) (fun k_ hk_ => ⟨Nat.le_trans HS.out hk_.2.1,fun he_ => by have h_:=blk_lt BK_g6.out;have h2_:=hk_.2.1;omega⟩)))
      clear ho1 ho2
      clear O_k O_d
      have n9_:=Aside0.mk (below_step HB.out hb)
      have n10_:=Aside0.mk ((Nat.le_trans (show _ ≤ _ from HS.out) hb.size : pz ≤ w6c.heap.size))
      have n11_:=Aside0.mk (blk_below BK_g6.out hb)
      have n12_:=Aside0.mk (Kd.R_below O_g.out hb)
      clear HB HS BK_g6 O_g
      have HB:=n9_
      have HS:=n10_
      have BK_g6:=n11_
      have O_g:=n12_
      clear n9_ n10_ n11_ n12_
      clear hb
      refine hK.out _ _ ⟨(blk_cell BK_g6.out 0).trans rfl,(blk_cell BK_g6.out 1).trans rfl,(blk_cell BK_g6.out 2).trans rfl,(blk_cell BK_g6.out 3).trans rfl,(blk_cell BK_g6.out 4).trans rfl⟩ (fun hHeld => ?_)
      clear hK K
      refine norm_ (a':=?_) ?_ ?_
      rotate_left
      ·show Act.put _ (some 70) _ = _
       simp only [Act.put,List.setIfInBounds_toArray,List.set_cons_zero,List.set_cons_succ,i64_w,i32_w]
       rfl
      refine pure_ (i:=12) (N:=some 58) (v:=?_) (a':=?_) #[true,true,true,true,true,true,true,true,true,true,true,true,true,false,false,false,false,false] rfl rfl (by kernel_rfl) (fun _ _ _ h => h) (Or.inl ⟨by rfl,?_⟩) ?_ ?_
      rotate_left
      ·intro w'
       go_simp
       with_reducible rfl
      rotate_left
      ·simp only [Act.put,List.setIfInBounds_toArray,List.set_cons_zero,List.set_cons_succ,i64_w,i32_w]
       rfl
      refine pure_ (i:=13) (N:=some 71) (v:=?_) (a':=?_) #[true,true,true,true,true,true,true,true,true,true,true,true,true,true,false,false,false,false] rfl rfl (by kernel_rfl) (fun _ _ _ h => h) (Or.inl ⟨by rfl,?_⟩) ?_ ?_
      rotate_left
      ·intro w'
       go_simp
       with_reducible rfl
      rotate_left
      ·simp only [Act.put,List.setIfInBounds_toArray,List.set_cons_zero,List.set_cons_succ,i64_w,i32_w]
       rfl
      refine pure_ (i:=14) (N:=some 72) (v:=?_) (a':=?_) #[true,true,true,true,true,true,true,true,true,true,true,true,true,true,true,false,false,false] rfl rfl (by kernel_rfl) (fun _ _ _ h => h) (Or.inl ⟨by rfl,?_⟩) ?_ ?_
      rotate_left
      ·intro w'
       go_simp
       with_reducible rfl
      rotate_left
      ·simp only [Act.put,List.setIfInBounds_toArray,List.set_cons_zero,List.set_cons_succ,i64_w,i32_w]
       rfl
      refine one_ (i:=15) (N:=some 11) #[true,true,true,true,true,true,true,true,true,true,true,true,true,true,true,true,false,false] rfl rfl (by kernel_rfl) (by decide) (fun K hK => ?_)
      refine value_ (w1:=?_) (v:=?_) (by rfl) rfl ?_ ?_
      rotate_left 2
      ·go_simp
       constructor
       ·rfl
       ·rfl
      obtain ⟨g11,hg⟩ : ∃ g_ : Nat,g_ = w6c.heap.size:=⟨_,rfl⟩
      obtain ⟨w6a11,hwa⟩ : ∃ w_ : World,w6c.alloc (.cells #[.int .u64 0,.slice none 0 0,.slice none 0 0,.bool false,.int .u64 0] 28) = w_:=⟨_,rfl⟩
      have hbox : w6a11.heap[g11]? = some (.cells #[.int .u64 0,.slice none 0 0,.slice none 0 0,.bool false,.int .u64 0] 28 (0,0)):=by rw [← hwa,hg];exact blk_new _ _
      have hb : Below w6c.heap.size w6c w6a11:=by rw [← hwa];exact below_alloc (Below.refl _ _) _
      simp only [← hg,hwa]
      clear hwa
      have GE_g11:=Aside0.mk (show w.heap.size ≤ g11 by rw [hg];exact HB.out.size)
      have NB_g6_g11 : g6 ≠ g11:=(by rw [hg];exact Nat.ne_of_lt (blk_lt BK_g6.out))
      have NB_g11_g6:=NB_g6_g11.symm
      replace HCH:=Aside0.mk (And.intro HCH.out (show pz ≤ g11 by rw [hg];exact HS.out))
      replace O_g:=Aside0.mk (Kd.R_mono (Kd.R_bound O_g.out) (ok':=fun k_ => ((fun k_ => k_ ≠ g6 ∧ k_ < pz)) k_ ∧ k_ ≠ g11) (fun k_ hk_ => ⟨hk_.1,by rw [hg];exact Nat.ne_of_lt hk_.2.2.1⟩))
      replace O_k1:=Aside0.mk (Kd.V_mono (Kd.V_bound O_k1.out) (ok':=fun k_ => ((fun k_ => pz ≤ k_ ∧ k_ ≠ g6)) k_ ∧ k_ ≠ g11) (fun k_ hk_ => ⟨hk_.1,by rw [hg];exact Nat.ne_of_lt hk_.2⟩))
      replace O_d1:=Aside0.mk (Kd.V_mono (Kd.V_bound O_d1.out) (ok':=fun k_ => ((fun k_ => pz ≤ k_ ∧ k_ ≠ g6)) k_ ∧ k_ ≠ g11) (fun k_ hk_ => ⟨hk_.1,by rw [hg];exact Nat.ne_of_lt hk_.2⟩))
      have n13_:=Aside0.mk (below_step HB.out hb)
      have n14_:=Aside0.mk ((Nat.le_trans (show _ ≤ _ from HS.out) hb.size : pz ≤ w6a11.heap.size))
      have n15_:=Aside0.mk (blk_below BK_g6.out hb)
      have n16_:=Aside0.mk (Kd.R_below O_g.out hb)
      have n17_:=Aside0.mk (Kd.V_below O_k1.out hb)
      have n18_:=Aside0.mk (Kd.V_below O_d1.out hb)
      clear HB HS BK_g6 O_g O_k1 O_d1
      have HB:=n13_
      have HS:=n14_
      have BK_g6:=n15_
      have O_g:=n16_
      have O_k1:=n17_
      have O_d1:=n18_
      clear n13_ n14_ n15_ n16_ n17_ n18_
      have BK_g11:=Aside0.mk hbox
      clear hbox hb hg
      refine hK.out _ _ ⟨(blk_cell BK_g6.out 0).trans rfl,(blk_cell BK_g6.out 1).trans rfl,(blk_cell BK_g6.out 2).trans rfl,(blk_cell BK_g6.out 3).trans rfl,(blk_cell BK_g6.out 4).trans rfl⟩ (fun hHeld => ?_)
      clear hK K
      refine norm_ (a':=?_) ?_ ?_
      rotate_left
      ·show Act.put _ (some 11) _ = _
       simp only [Act.put,List.setIfInBounds_toArray,List.set_cons_zero,List.set_cons_succ,i64_w,i32_w]
       rfl
      exact norm_ (by simp only [putAll,Act.put,List.setIfInBounds_toArray,List.set_cons_zero,List.set_cons_succ]) (hCont (g11,u1,u2) _ ⟨BK_g6.out,BK_g11.out,(Kd.V_mono O_k1.out (ok':=(fun k_ => pz ≤ k_ ∧ k_ ≠ g11)) (fun k_ hk_ => by have h_:=HCH.out;omega)),(Kd.V_mono O_d1.out (ok':=(fun k_ => pz ≤ k_ ∧ k_ ≠ g11)) (fun k_ hk_ => by have h_:=HCH.out;omega)),(Kd.R_mono O_g.out (ok':=(fun k_ => k_ ≠ g6 ∧ k_ < pz)) (fun k_ hk_ => by have h_:=HCH.out;omega)),GE_g11.out,(show pz ≤ g11 by have h_:=HCH.out;omega),NB_g6_g11,HS.out,HB.out⟩)
     ·skip
      refine value_ (w1:=?_) (v:=?_) (by rfl) rfl ?_ ?_
      rotate_left 2
      ·go_simp
       constructor
       ·rfl
       ·rfl
      obtain ⟨g11,hg⟩ : ∃ g_ : Nat,g_ = w5.heap.size:=⟨_,rfl⟩
      obtain ⟨w6a,hwa⟩ : ∃ w_ : World,w5.alloc (.cells #[.int .u64 0,.slice none 0 0,.slice none 0 0,.bool false,.int .u64 0] 28) = w_:=⟨_,rfl⟩
      have hbox : w6a.heap[g11]? = some (.cells #[.int .u64 0,.slice none 0 0,.slice none 0 0,.bool false,.int .u64 0] 28 (0,0)):=by rw [← hwa,hg];exact blk_new _ _
      have hb : Below w5.heap.size w5 w6a:=by rw [← hwa];exact below_alloc (Below.refl _ _) _
      simp only [← hg,hwa]
      clear hwa
      have GE_g11:=Aside0.mk (show w.heap.size ≤ g11 by rw [hg];exact HB.out.size)
      have NB_g6_g11 : g6 ≠ g11:=(by rw [hg];exact Nat.ne_of_lt (blk_lt BK_g6.out))
      have NB_g11_g6:=NB_g6_g11.symm
      replace HCH:=Aside0.mk (And.intro HCH.out (show pz ≤ g11 by rw [hg];exact HS.out))
      replace O_k:=Aside0.mk (Kd.V_mono (Kd.V_bound O_k.out) (ok':=fun k_ => ((fun k_ => (k_ ≠ g6 ∧ some k_ ≠ (.slice Ag got.length pg : Value).ownBlock) ∧ k_ < pz)) k_ ∧ k_ ≠ g11) (fun k_ hk_ => ⟨hk_.1,by rw [hg];exact Nat.ne_of_lt hk_.2⟩))
      replace O_d:=Aside0.mk (Kd.V_mono (Kd.V_bound O_d.out) (ok':=fun k_ => ((fun k_ => (k_ ≠ g6 ∧ some k_ ≠ (.slice Ag got.length pg : Value).ownBlock) ∧ k_ < pz)) k_ ∧ k_ ≠ g11) (fun k_ hk_ => ⟨hk_.1,by rw [hg];exact Nat.ne_of_lt hk_.2⟩))
      replace O_g:=Aside0.mk (Kd.R_mono (Kd.R_bound O_g.out) (ok':=fun k_ => ((fun k_ => k_ ≠ g6 ∧ k_ < pz)) k_ ∧ k_ ≠ g11) (fun k_ hk_ => ⟨hk_.1,by rw [hg];exact Nat.ne_of_lt hk_.2.2.1⟩))
      have n9_:=Aside0.mk (below_step HB.out hb)
      have n10_:=Aside0.mk ((Nat.le_trans (show _ ≤ _ from HS.out) hb.size : pz ≤ w6a.heap.size))
      have n11_:=Aside0.mk (blk_below BK_g6.out hb)
      have n12_:=Aside0.mk (Kd.V_below O_k.out hb)
      have n13_:=Aside0.mk (Kd.V_below O_d.out hb)
      have n14_:=Aside0.mk (Kd.R_below O_g.out hb)
      clear HB HS BK_g6 O_k O_d O_g
      have HB:=n9_
      have HS:=n10_
      have BK_g6:=n11_
      have O_k:=n12_
      have O_d:=n13_
      have O_g:=n14_
      clear n9_ n10_ n11_ n12_ n13_ n14_
      have BK_g11:=Aside0.mk hbox
      clear hbox hb hg
      refine hK.out _ _ ⟨(blk_cell BK_g6.out 0).trans rfl,(blk_cell BK_g6.out 1).trans rfl,(blk_cell BK_g6.out 2).trans rfl,(blk_cell BK_g6.out 3).trans rfl,(blk_cell BK_g6.out 4).trans rfl⟩ (fun hHeld => ?_)
      clear hK K
      refine norm_ (a':=?_) ?_ ?_
      rotate_left
      ·show Act.put _ (some 11) _ = _
       simp only [Act.put,List.setIfInBounds_toArray,List.set_cons_zero,List.set_cons_succ,i64_w,i32_w]
       rfl
      refine one_ (i:=11) (N:=some 70) #[true,true,true,true,true,true,true,true,true,true,true,true,false,false,false,true,false,false] rfl rfl (by kernel_rfl) (by decide) (fun K hK => ?_)
      refine goes_ Try.func10 (by kernel_rfl) rfl #[.agg #[.int .u64 nx,.slice A_k ks.length p_k,.slice A_d D.length p_d,.bool en,.int .u64 sz],.int .u64 fr,.slice Ac q.length cq,.bool fb] (by rfl) rfl rfl (by (try simp only [List.map_toArray,List.map_cons,List.map_nil]);first | done | rfl) ?_
      refine (gather_Put.calls k nx _ _ ks _ _ D en sz fr _ _ q fb _ _ _ _ _ _ _ (Kd.V_reads' O_k.out).2.2 (Kd.V_reads' O_k.out).2.1 (Kd.V_reads' O_d.out).2.2 (Kd.V_reads' O_d.out).2.1 (Kd.C_below HMID.out HB.out) HCQ.out HP.out).mono ?_
      rintro e_ w6c15 ⟨u1,u2,rfl,ho1,ho2,hb⟩
      refine ⟨_,rfl,?_⟩
      have O_k1:=Aside0.mk (Kd.R_V (base':=w.heap.size) (Kd.R_mono (Kd.R_bound ho1) (ok':=fun k_ => pz ≤ k_ ∧ k_ ≠ g6 ∧ k_ ≠ g11) (fun k_ hk_ => ⟨Nat.le_trans HS.out hk_.2.1,fun he_ => by have h_:=blk_lt BK_g6.out;have h2_:=hk_.2.1;omega,fun he_ => by have h_:=blk_lt BK_g11.out;have h2_:=hk_.2.1;omega⟩)))
      have O_d1:=Aside0.mk (Kd.R_V (base':=w.heap.size) (Kd.R_mono (Kd.R_bound ho2) (ok':=fun k_ => pz ≤ k_ ∧ k_ ≠ g6 ∧ k_ ≠ g11) (fun k_ hk_ => ⟨Nat.le_trans HS.out hk_.2.1,fun he_ => by have h_:=blk_lt BK_g6.out;have h2_:=hk_.2.1;omega,fun he_ => by have h_:=blk_lt BK_g11.out;have h2_:=hk_.2.1;omega⟩)))
      clear ho1 ho2
      clear O_k O_d
      have n15_:=Aside0.mk (below_step HB.out hb)
      have n16_:=Aside0.mk ((Nat.le_trans (show _ ≤ _ from HS.out) hb.size : pz ≤ w6c15.heap.size))
      have n17_:=Aside0.mk (blk_below BK_g6.out hb)
      have n18_:=Aside0.mk (blk_below BK_g11.out hb)
      have n19_:=Aside0.mk (Kd.R_below O_g.out hb)
      clear HB HS BK_g6 BK_g11 O_g
      have HB:=n15_
      have HS:=n16_
      have BK_g6:=n17_
      have BK_g11:=n18_
      have O_g:=n19_
      clear n15_ n16_ n17_ n18_ n19_
      clear hb
      refine hK.out _ _ ⟨(blk_cell BK_g6.out 0).trans rfl,(blk_cell BK_g6.out 1).trans rfl,(blk_cell BK_g6.out 2).trans rfl,(blk_cell BK_g6.out 3).trans rfl,(blk_cell BK_g6.out 4).trans rfl⟩ (fun hHeld => ?_)
      clear hK K
      refine norm_ (a':=?_) ?_ ?_
      rotate_left
      ·show Act.put _ (some 70) _ = _
       simp only [Act.put,List.setIfInBounds_toArray,List.set_cons_zero,List.set_cons_succ,i64_w,i32_w]
       rfl
      refine pure_ (i:=12) (N:=some 58) (v:=?_) (a':=?_) #[true,true,true,true,true,true,true,true,true,true,true,true,true,false,false,true,false,false] rfl rfl (by kernel_rfl) (fun _ _ _ h => h) (Or.inl ⟨by rfl,?_⟩) ?_ ?_
      rotate_left
      ·intro w'
       go_simp
       with_reducible rfl
      rotate_left
      ·simp only [Act.put,List.setIfInBounds_toArray,List.set_cons_zero,List.set_cons_succ,i64_w,i32_w]
       rfl
      refine pure_ (i:=13) (N:=some 71) (v:=?_) (a':=?_) #[true,true,true,true,true,true,true,true,true,true,true,true,true,true,false,true,false,false] rfl rfl (by kernel_rfl) (fun _ _ _ h => h) (Or.inl ⟨by rfl,?_⟩) ?_ ?_
      rotate_left
      ·intro w'
       go_simp
       with_reducible rfl
      rotate_left
      ·simp only [Act.put,List.setIfInBounds_toArray,List.set_cons_zero,List.set_cons_succ,i64_w,i32_w]
       rfl
      refine pure_ (i:=14) (N:=some 72) (v:=?_) (a':=?_) #[true,true,true,true,true,true,true,true,true,true,true,true,true,true,true,true,false,false] rfl rfl (by kernel_rfl) (fun _ _ _ h => h) (Or.inl ⟨by rfl,?_⟩) ?_ ?_
      rotate_left
      ·intro w'
       go_simp
       with_reducible rfl
      rotate_left
      ·simp only [Act.put,List.setIfInBounds_toArray,List.set_cons_zero,List.set_cons_succ,i64_w,i32_w]
       rfl
      exact norm_ (by simp only [putAll,Act.put,List.setIfInBounds_toArray,List.set_cons_zero,List.set_cons_succ]) (hCont (g11,u1,u2) _ ⟨BK_g6.out,BK_g11.out,(Kd.V_mono O_k1.out (ok':=(fun k_ => pz ≤ k_ ∧ k_ ≠ g11)) (fun k_ hk_ => by have h_:=HCH.out;omega)),(Kd.V_mono O_d1.out (ok':=(fun k_ => pz ≤ k_ ∧ k_ ≠ g11)) (fun k_ hk_ => by have h_:=HCH.out;omega)),(Kd.R_mono O_g.out (ok':=(fun k_ => k_ ≠ g6 ∧ k_ < pz)) (fun k_ hk_ => by have h_:=HCH.out;omega)),GE_g11.out,(show pz ≤ g11 by have h_:=HCH.out;omega),NB_g6_g11,HS.out,HB.out⟩)
    rintro ⟨g11,u1,u2⟩ w9 ⟨f0,f1,f2,f3,f4,f5,f6,f7,f8,f9⟩
    clear HB HS BK_g6 O_k O_d O_g
    have BK_g6:=Aside0.mk f0
    have BK_g11:=Aside0.mk f1
    have O_k1:=Aside0.mk f2
    have O_d1:=Aside0.mk f3
    have O_g:=Aside0.mk f4
    have GE_g11:=Aside0.mk f5
    have HS:=Aside0.mk f8
    have HB:=Aside0.mk f9
    replace HCH:=Aside0.mk (And.intro HCH.out f6)
    have NB_g6_g11:=f7
    have NB_g11_g6:=NB_g6_g11.symm
    clear f0 f1 f2 f3 f4 f5 f6 f7 f8 f9
    have hHeld : w9.cell? ⟨g6,0,none⟩ = some (.int .u64 nx) ∧ w9.cell? ⟨g6,1,none⟩ = some (.slice A_k ks.length p_k) ∧ w9.cell? ⟨g6,2,none⟩ = some (.slice A_d D.length p_d) ∧ w9.cell? ⟨g6,3,none⟩ = some (.bool en) ∧ w9.cell? ⟨g6,4,none⟩ = some (.int .u64 sz):=⟨(blk_cell BK_g6.out 0).trans rfl,(blk_cell BK_g6.out 1).trans rfl,(blk_cell BK_g6.out 2).trans rfl,(blk_cell BK_g6.out 3).trans rfl,(blk_cell BK_g6.out 4).trans rfl⟩
    obtain ⟨A_k1,p_k1,eo⟩:=Kd.V_slice O_k1.out
    subst eo
    obtain ⟨A_d1,p_d1,eo⟩:=Kd.V_slice O_d1.out
    subst eo
    have hx_g11_0 : w9.cell? ⟨g11,0,none⟩ = some (.int .u64 0):=(blk_cell BK_g11.out 0).trans rfl
    have hf_g11_0:=blk_frozen BK_g11.out 0
    have hx_g11_1 : w9.cell? ⟨g11,1,none⟩ = some (.slice none 0 0):=(blk_cell BK_g11.out 1).trans rfl
    have hf_g11_1:=blk_frozen BK_g11.out 1
    have hx_g11_2 : w9.cell? ⟨g11,2,none⟩ = some (.slice none 0 0):=(blk_cell BK_g11.out 2).trans rfl
    have hf_g11_2:=blk_frozen BK_g11.out 2
    have hx_g11_3 : w9.cell? ⟨g11,3,none⟩ = some (.bool false):=(blk_cell BK_g11.out 3).trans rfl
    have hf_g11_3:=blk_frozen BK_g11.out 3
    have hx_g11_4 : w9.cell? ⟨g11,4,none⟩ = some (.int .u64 0):=(blk_cell BK_g11.out 4).trans rfl
    have hf_g11_4:=blk_frozen BK_g11.out 4
    refine norm_ (a':=?_) ?_ ?_
    rotate_left
    ·simp only [putAll,Act.put,List.setIfInBounds_toArray,List.set_cons_zero,List.set_cons_succ]
     rfl
    refine last_ (i:=16) (N:=none) #[true,true,true,true,true,true,true,true,true,true,true,true,true,true,true,true,true,false] rfl rfl (by kernel_rfl) (by decide) (fun K hK => ?_)
    refine skip_ (w1:=?_) (by rfl) rfl ?_ ?_
    rotate_left
    ·go_simp
     rfl
    refine hK.out _ _ ?_
    clear hK K
    refine pure_ (i:=17) (N:=some 12) (v:=?_) (a':=?_) #[true,true,true,true,true,true,true,true,true,true,true,true,true,true,true,true,true,true] rfl rfl (by kernel_rfl) (fun _ _ _ h => h) (Or.inl ⟨by rfl,?_⟩) ?_ ?_
    rotate_left
    ·intro w'
     go_simp
     with_reducible rfl
    rotate_left
    ·simp only [Act.put,List.setIfInBounds_toArray,List.set_cons_zero,List.set_cons_succ,i64_w,i32_w]
     rfl
    refine done_ (by kernel_rfl) ?_
    clear hx_g11_0 hf_g11_0 hx_g11_1 hf_g11_1 hx_g11_2 hf_g11_2 hx_g11_3 hf_g11_3 hx_g11_4 hf_g11_4
    obtain ⟨w10,hw9_⟩ : ∃ w_ : World,pre_set5 w9 g11 (.int .u64 n1) (.slice A_k1 K1.length p_k1) (.slice A_d1 D1.length p_d1) (.bool en1) (.int .u64 sz1) = w_:=⟨_,rfl⟩
    have n10_:=Aside0.mk (pre_blk5 hw9_ BK_g11.out)
    have n11_:=Aside0.mk (pre_far5 hw9_ NB_g6_g11 BK_g6.out)
    have n12_:=Aside0.mk (pre_R5o hw9_ (fun k_ hk_ => by have h_:=HCH.out;omega) O_g.out)
    have n13_:=Aside0.mk (pre_V5o hw9_ (fun k_ hk_ => by have h_:=HCH.out;omega) O_k1.out)
    have n14_:=Aside0.mk (pre_V5o hw9_ (fun k_ hk_ => by have h_:=HCH.out;omega) O_d1.out)
    have n15_:=Aside0.mk (pre_below5 hw9_ GE_g11.out HB.out)
    have n16_:=Aside0.mk ((pre_size5 hw9_).symm ▸ HS.out)
    rw [pre_set5_fold,hw9_]
    clear hw9_ BK_g11 BK_g6 O_g O_k1 O_d1 HB HS
    have BK_g11:=n10_
    have BK_g6:=n11_
    have O_g:=n12_
    have O_k1:=n13_
    have O_d1:=n14_
    have HB:=n15_
    have HS:=n16_
    clear n10_ n11_ n12_ n13_ n14_ n15_ n16_
    clear hcut_ qo1 qo2 qo3 hfb
    have hx_g11_0 : w10.cell? ⟨g11,0,none⟩ = some (.int .u64 n1):=(blk_cell BK_g11.out 0).trans rfl
    have hf_g11_0:=blk_frozen BK_g11.out 0
    have hx_g11_1 : w10.cell? ⟨g11,1,none⟩ = some (.slice A_k1 K1.length p_k1):=(blk_cell BK_g11.out 1).trans rfl
    have hf_g11_1:=blk_frozen BK_g11.out 1
    have hx_g11_2 : w10.cell? ⟨g11,2,none⟩ = some (.slice A_d1 D1.length p_d1):=(blk_cell BK_g11.out 2).trans rfl
    have hf_g11_2:=blk_frozen BK_g11.out 2
    have hx_g11_3 : w10.cell? ⟨g11,3,none⟩ = some (.bool en1):=(blk_cell BK_g11.out 3).trans rfl
    have hf_g11_3:=blk_frozen BK_g11.out 3
    have hx_g11_4 : w10.cell? ⟨g11,4,none⟩ = some (.int .u64 sz1):=(blk_cell BK_g11.out 4).trans rfl
    have hf_g11_4:=blk_frozen BK_g11.out 4
    go_upto_region 14 with fail
    clear hx_g11_0 hf_g11_0 hx_g11_1 hf_g11_1 hx_g11_2 hf_g11_2 hx_g11_3 hf_g11_3 hx_g11_4 hf_g11_4
    have n17_:=Aside0.mk (below_drew1 HB.out)
    have n18_:=Aside0.mk ((show pz ≤ w10.drew.heap.size from HS.out))
    have n19_:=Aside0.mk (blk_drew BK_g6.out)
    have n20_:=Aside0.mk (blk_drew BK_g11.out)
    have n21_:=Aside0.mk (Kd.R_drew O_g.out)
    have n22_:=Aside0.mk (Kd.V_drew O_k1.out)
    have n23_:=Aside0.mk (Kd.V_drew O_d1.out)
    clear HB HS BK_g6 BK_g11 O_g O_k1 O_d1
    have HB:=n17_
    have HS:=n18_
    have BK_g6:=n19_
    have BK_g11:=n20_
    have O_g:=n21_
    have O_k1:=n22_
    have O_d1:=n23_
    clear n17_ n18_ n19_ n20_ n21_ n22_ n23_
    (try simp only [Act.put,List.setIfInBounds_toArray,List.set_cons_zero,List.set_cons_succ])
    refine start_ (n:=15) (S:=fun w' => w'.cell? ⟨g11,0,none⟩ = some (.int .u64 n1) ∧ w'.cell? ⟨g11,1,none⟩ = some (.slice A_k1 K1.length p_k1) ∧ w'.cell? ⟨g11,2,none⟩ = some (.slice A_d1 D1.length p_d1) ∧ w'.cell? ⟨g11,3,none⟩ = some (.bool en1) ∧ w'.cell? ⟨g11,4,none⟩ = some (.int .u64 sz1) ∧ w'.cell? ⟨(ad.add (i.toNat * 3)).block,(ad.add (i.toNat * 3)).off + 2,none⟩ = some (.int .i64 pr)) (ds:=[12]) #[false,false,false,false,false,false,false,false,false,false,false,false,false,false,false] (by kernel_rfl) rfl rfl ⟨(blk_cell BK_g11.out 0).trans rfl,(blk_cell BK_g11.out 1).trans rfl,(blk_cell BK_g11.out 2).trans rfl,(blk_cell BK_g11.out 3).trans rfl,(blk_cell BK_g11.out 4).trans rfl,(HB.out.cell (World.block_lt_of_cell? w _ HX2.out)).trans HX2.out⟩ (fun hHeld => ?_)
    generalize w10.drew = w11 at HB HS BK_g6 BK_g11 O_g O_k1 O_d1 hHeld ⊢
    refine pure_ (i:=1) (N:=some 77) (v:=?_) (a':=?_) #[false,true,false,false,false,false,false,false,false,false,false,false,false,false,false] rfl rfl (by kernel_rfl) (fun _ _ _ h => h) (Or.inl ⟨by rfl,?_⟩) ?_ ?_
    rotate_left
    ·intro w'
     go_simp
     with_reducible rfl
    rotate_left
    ·simp only [Act.put,List.setIfInBounds_toArray,List.set_cons_zero,List.set_cons_succ,i64_w,i32_w]
     rfl
    refine pure_ (i:=2) (N:=some 78) (v:=?_) (a':=?_) #[false,true,true,false,false,false,false,false,false,false,false,false,false,false,false] rfl rfl (by kernel_rfl) (fun _ _ _ h => h) (Or.inl ⟨by rfl,?_⟩) ?_ ?_
    rotate_left
    ·intro w'
     go_simp
     with_reducible rfl
    rotate_left
    ·simp only [Act.put,List.setIfInBounds_toArray,List.set_cons_zero,List.set_cons_succ,i64_w,i32_w]
     rfl
    refine pure_ (i:=3) (N:=some 79) (v:=?_) (a':=?_) #[false,true,true,true,false,false,false,false,false,false,false,false,false,false,false] rfl rfl (by kernel_rfl) (fun _ _ _ h => h) (Or.inl ⟨by rfl,?_⟩) ?_ ?_
    rotate_left
    ·intro w'
     go_simp
     with_reducible rfl
    rotate_left
    ·simp only [Act.put,List.setIfInBounds_toArray,List.set_cons_zero,List.set_cons_succ,i64_w,i32_w]
     rfl
    refine pure_ (i:=4) (N:=some 80) (v:=?_) (a':=?_) #[false,true,true,true,true,false,false,false,false,false,false,false,false,false,false] rfl rfl (by kernel_rfl) (fun _ _ _ h => h) (Or.inl ⟨by rfl,?_⟩) ?_ ?_
    rotate_left
    ·intro w'
     go_simp
     with_reducible rfl
    rotate_left
    ·simp only [Act.put,List.setIfInBounds_toArray,List.set_cons_zero,List.set_cons_succ,i64_w,i32_w]
     rfl
    refine take_ (i:=0) (N:=some 76) (v:=?_) (a':=?_) #[true,true,true,true,true,false,false,false,false,false,false,false,false,false,false] rfl rfl (by kernel_rfl) (fun _ _ _ h => h) (Or.inl ⟨by rfl,?_⟩) hHeld ?_ ?_
    rotate_left
    ·rintro w' ⟨s0,s1,s2,s3,s4,s5⟩
     go_simp
     with_reducible rfl
    rotate_left
    ·simp only [Act.put,List.setIfInBounds_toArray,List.set_cons_zero,List.set_cons_succ,i64_w,i32_w]
     rfl
    refine take_ (i:=5) (N:=some 81) (v:=?_) (a':=?_) #[true,true,true,true,true,true,false,false,false,false,false,false,false,false,false] rfl rfl (by kernel_rfl) (fun _ _ _ h => h) (Or.inl ⟨by rfl,?_⟩) hHeld ?_ ?_
    rotate_left
    ·rintro w' ⟨s0,s1,s2,s3,s4,s5⟩
     go_simp
     with_reducible rfl
    rotate_left
    ·simp only [Act.put,List.setIfInBounds_toArray,List.set_cons_zero,List.set_cons_succ,i64_w,i32_w]
     rfl
    refine join_ (σ:=Nat × Value × Value × Value) 3 #[true,true,true,true,true,true,true,true,true,true,true,true,false,false,false] (fun s_ => [(82,.tuple #[.agg #[.int .u64 n2,s_.2.1,s_.2.2.1,.bool en2,.int .u64 sz2],s_.2.2.2,.bool ov]),(75,.tuple #[.agg #[.int .u64 n2,s_.2.1,s_.2.2.1,.bool en2,.int .u64 sz2],s_.2.2.2,.bool ov]),(83,.agg #[.int .u64 n2,s_.2.1,s_.2.2.1,.bool en2,.int .u64 sz2]),(84,s_.2.2.2),(85,.bool ov),(13,.pointer (some ⟨s_.1,0,none⟩))]) (fun s_ w_ => w_.heap[g6]? = some (.cells #[.int .u64 nx,.slice A_k ks.length p_k,.slice A_d D.length p_d,.bool en,.int .u64 sz] 28 (0,0)) ∧ w_.heap[g11]? = some (.cells #[.int .u64 n1,.slice A_k1 K1.length p_k1,.slice A_d1 D1.length p_d1,.bool en1,.int .u64 sz1] 28 (0,0)) ∧ w_.heap[s_.1]? = some (.cells #[.int .u64 0,.slice none 0 0,.slice none 0 0,.bool false,.int .u64 0] 28 (0,0)) ∧ Kd.V k41 41 w_ w.heap.size (fun k_ => pz ≤ k_ ∧ k_ ≠ s_.1) (s_.2.1) (K2) ∧ Kd.V (Kd.int .u8) 5 w_ w.heap.size (fun k_ => pz ≤ k_ ∧ k_ ≠ s_.1) (s_.2.2.1) (D2) ∧ Kd.V (Kd.int .u8) 5 w_ w.heap.size (fun k_ => pz ≤ k_ ∧ k_ ≠ s_.1) (s_.2.2.2) (b) ∧ Kd.R (Kd.int .u8) 5 w_ w.heap.size (fun k_ => k_ ≠ g6 ∧ k_ < pz) (.slice Ag got.length pg) (got) ∧ w.heap.size ≤ s_.1 ∧ pz ≤ s_.1 ∧ g6 ≠ s_.1 ∧ g11 ≠ s_.1 ∧ pz ≤ w_.heap.size ∧ Below w.heap.size w w_) ?_ ?_
    rotate_left
    ·intro hCont
     refine two_ (i:=6) (j:=11) (Ni:=some 82) (Nj:=some 13) #[true,true,true,true,true,true,true,false,false,false,false,false,false,false,false] #[true,true,true,true,true,true,false,false,false,false,false,true,false,false,false] rfl rfl rfl rfl (by kernel_rfl) (by decide) (by decide) (fun K hK => ?_) (fun K hK => ?_)
     ·skip
      refine goes_ Try.func11 (by kernel_rfl) rfl #[.agg #[.int .u64 n1,.slice A_k1 K1.length p_k1,.slice A_d1 D1.length p_d1,.bool en1,.int .u64 sz1],.int .i64 pr] (by rfl) rfl rfl (by (try simp only [List.map_toArray,List.map_cons,List.map_nil]);first | done | rfl) ?_
      refine (gather_Read.calls k n1 _ _ K1 _ _ D1 en1 sz1 pr _ _ _ _ _ _ _ _ (Kd.V_reads' O_k1.out).2.2 (Kd.V_reads' O_k1.out).2.1 (Kd.V_reads' O_d1.out).2.2 (Kd.V_reads' O_d1.out).2.1 HR.out).mono ?_
      rintro e_ w12c ⟨u1,u2,u3,rfl,ho1,ho2,ho3,hb⟩
      refine ⟨_,rfl,?_⟩
      have O_k2:=Aside0.mk (Kd.R_V (base':=w.heap.size) (Kd.R_mono (Kd.R_bound ho1) (ok':=fun k_ => pz ≤ k_ ∧ k_ ≠ g6 ∧ k_ ≠ g11) (fun k_ hk_ => ⟨Nat.le_trans HS.out hk_.2.1,fun he_ => by have h_:=blk_lt BK_g6.out;have h2_:=hk_.2.1;omega,fun he_ => by have h_:=blk_lt BK_g11.out;have h2_:=hk_.2.1;omega⟩)))
      have O_d2:=Aside0.mk (Kd.R_V (base':=w.heap.size) (Kd.R_mono (Kd.R_bound ho2) (ok':=fun k_ => pz ≤ k_ ∧ k_ ≠ g6 ∧ k_ ≠ g11) (fun k_ hk_ => ⟨Nat.le_trans HS.out hk_.2.1,fun he_ => by have h_:=blk_lt BK_g6.out;have h2_:=hk_.2.1;omega,fun he_ => by have h_:=blk_lt BK_g11.out;have h2_:=hk_.2.1;omega⟩)))
      have O_b:=Aside0.mk (Kd.R_V (base':=w.heap.size) (Kd.R_mono (Kd.R_bound ho3) (ok':=fun k_ => pz ≤ k_ ∧ k_ ≠ g6 ∧ k_ ≠ g11) (fun k_ hk_ => ⟨Nat.le_trans HS.out hk_.2.1,fun he_ => by have h_:=blk_lt BK_g6.out;have h2_:=hk_.2.1;omega,fun he_ => by have h_:=blk_lt BK_g11.out;have h2_:=hk_.2.1;omega⟩)))
      clear ho1 ho2 ho3
      clear O_k1 O_d1
      have n24_:=Aside0.mk (below_step HB.out hb)
      have n25_:=Aside0.mk ((Nat.le_trans (show _ ≤ _ from HS.out) hb.size : pz ≤ w12c.heap.size))
      have n26_:=Aside0.mk (blk_below BK_g6.out hb)
      have n27_:=Aside0.mk (blk_below BK_g11.out hb)
      have n28_:=Aside0.mk (Kd.R_below O_g.out hb)
      clear HB HS BK_g6 BK_g11 O_g
      have HB:=n24_
      have HS:=n25_
      have BK_g6:=n26_
      have BK_g11:=n27_
      have O_g:=n28_
      clear n24_ n25_ n26_ n27_ n28_
      clear hb
      refine hK.out _ _ ⟨(blk_cell BK_g11.out 0).trans rfl,(blk_cell BK_g11.out 1).trans rfl,(blk_cell BK_g11.out 2).trans rfl,(blk_cell BK_g11.out 3).trans rfl,(blk_cell BK_g11.out 4).trans rfl,(HB.out.cell (World.block_lt_of_cell? w _ HX2.out)).trans HX2.out⟩ (fun hHeld => ?_)
      clear hK K
      refine norm_ (a':=?_) ?_ ?_
      rotate_left
      ·show Act.put _ (some 82) _ = _
       simp only [Act.put,List.setIfInBounds_toArray,List.set_cons_zero,List.set_cons_succ,i64_w,i32_w]
       rfl
      refine pure_ (i:=7) (N:=some 75) (v:=?_) (a':=?_) #[true,true,true,true,true,true,true,true,false,false,false,false,false,false,false] rfl rfl (by kernel_rfl) (fun _ _ _ h => h) (Or.inl ⟨by rfl,?_⟩) ?_ ?_
      rotate_left
      ·intro w'
       go_simp
       with_reducible rfl
      rotate_left
      ·simp only [Act.put,List.setIfInBounds_toArray,List.set_cons_zero,List.set_cons_succ,i64_w,i32_w]
       rfl
      refine pure_ (i:=8) (N:=some 83) (v:=?_) (a':=?_) #[true,true,true,true,true,true,true,true,true,false,false,false,false,false,false] rfl rfl (by kernel_rfl) (fun _ _ _ h => h) (Or.inl ⟨by rfl,?_⟩) ?_ ?_
      rotate_left
      ·intro w'
       go_simp
       with_reducible rfl
      rotate_left
      ·simp only [Act.put,List.setIfInBounds_toArray,List.set_cons_zero,List.set_cons_succ,i64_w,i32_w]
       rfl
      refine pure_ (i:=9) (N:=some 84) (v:=?_) (a':=?_) #[true,true,true,true,true,true,true,true,true,true,false,false,false,false,false] rfl rfl (by kernel_rfl) (fun _ _ _ h => h) (Or.inl ⟨by rfl,?_⟩) ?_ ?_
      rotate_left
      ·intro w'
       go_simp
       with_reducible rfl
      rotate_left
      ·simp only [Act.put,List.setIfInBounds_toArray,List.set_cons_zero,List.set_cons_succ,i64_w,i32_w]
       rfl
      refine pure_ (i:=10) (N:=some 85) (v:=?_) (a':=?_) #[true,true,true,true,true,true,true,true,true,true,true,false,false,false,false] rfl rfl (by kernel_rfl) (fun _ _ _ h => h) (Or.inl ⟨by rfl,?_⟩) ?_ ?_
      rotate_left
      ·intro w'
       go_simp
       with_reducible rfl
      rotate_left
      ·simp only [Act.put,List.setIfInBounds_toArray,List.set_cons_zero,List.set_cons_succ,i64_w,i32_w]
       rfl
      refine one_ (i:=11) (N:=some 13) #[true,true,true,true,true,true,true,true,true,true,true,true,false,false,false] rfl rfl (by kernel_rfl) (by decide) (fun K hK => ?_)
      refine value_ (w1:=?_) (v:=?_) (by rfl) rfl ?_ ?_
      rotate_left 2
      ·go_simp
       constructor
       ·rfl
       ·rfl
      obtain ⟨g13,hg⟩ : ∃ g_ : Nat,g_ = w12c.heap.size:=⟨_,rfl⟩
      obtain ⟨w12a6,hwa⟩ : ∃ w_ : World,w12c.alloc (.cells #[.int .u64 0,.slice none 0 0,.slice none 0 0,.bool false,.int .u64 0] 28) = w_:=⟨_,rfl⟩
      have hbox : w12a6.heap[g13]? = some (.cells #[.int .u64 0,.slice none 0 0,.slice none 0 0,.bool false,.int .u64 0] 28 (0,0)):=by rw [← hwa,hg];exact blk_new _ _
      have hb : Below w12c.heap.size w12c w12a6:=by rw [← hwa];exact below_alloc (Below.refl _ _) _
      simp only [← hg,hwa]
      clear hwa
      have GE_g13:=Aside0.mk (show w.heap.size ≤ g13 by rw [hg];exact HB.out.size)
      have NB_g6_g13 : g6 ≠ g13:=(by rw [hg];exact Nat.ne_of_lt (blk_lt BK_g6.out))
      have NB_g13_g6:=NB_g6_g13.symm
      have NB_g11_g13 : g11 ≠ g13:=(by rw [hg];exact Nat.ne_of_lt (blk_lt BK_g11.out))
      have NB_g13_g11:=NB_g11_g13.symm
      replace HCH:=Aside0.mk (And.intro HCH.out (show pz ≤ g13 by rw [hg];exact HS.out))
      replace O_g:=Aside0.mk (Kd.R_mono (Kd.R_bound O_g.out) (ok':=fun k_ => ((fun k_ => k_ ≠ g6 ∧ k_ < pz)) k_ ∧ k_ ≠ g13) (fun k_ hk_ => ⟨hk_.1,by rw [hg];exact Nat.ne_of_lt hk_.2.2.1⟩))
      replace O_k2:=Aside0.mk (Kd.V_mono (Kd.V_bound O_k2.out) (ok':=fun k_ => ((fun k_ => pz ≤ k_ ∧ k_ ≠ g6 ∧ k_ ≠ g11)) k_ ∧ k_ ≠ g13) (fun k_ hk_ => ⟨hk_.1,by rw [hg];exact Nat.ne_of_lt hk_.2⟩))
      replace O_d2:=Aside0.mk (Kd.V_mono (Kd.V_bound O_d2.out) (ok':=fun k_ => ((fun k_ => pz ≤ k_ ∧ k_ ≠ g6 ∧ k_ ≠ g11)) k_ ∧ k_ ≠ g13) (fun k_ hk_ => ⟨hk_.1,by rw [hg];exact Nat.ne_of_lt hk_.2⟩))
      replace O_b:=Aside0.mk (Kd.V_mono (Kd.V_bound O_b.out) (ok':=fun k_ => ((fun k_ => pz ≤ k_ ∧ k_ ≠ g6 ∧ k_ ≠ g11)) k_ ∧ k_ ≠ g13) (fun k_ hk_ => ⟨hk_.1,by rw [hg];exact Nat.ne_of_lt hk_.2⟩))
      have n29_:=Aside0.mk (below_step HB.out hb)
      have n30_:=Aside0.mk ((Nat.le_trans (show _ ≤ _ from HS.out) hb.size : pz ≤ w12a6.heap.size))
      have n31_:=Aside0.mk (blk_below BK_g6.out hb)
      have n32_:=Aside0.mk (blk_below BK_g11.out hb)
      have n33_:=Aside0.mk (Kd.R_below O_g.out hb)
      have n34_:=Aside0.mk (Kd.V_below O_k2.out hb)
      have n35_:=Aside0.mk (Kd.V_below O_d2.out hb)
      have n36_:=Aside0.mk (Kd.V_below O_b.out hb)
      clear HB HS BK_g6 BK_g11 O_g O_k2 O_d2 O_b
      have HB:=n29_
      have HS:=n30_
      have BK_g6:=n31_
      have BK_g11:=n32_
      have O_g:=n33_
      have O_k2:=n34_
      have O_d2:=n35_
      have O_b:=n36_
      clear n29_ n30_ n31_ n32_ n33_ n34_ n35_ n36_
      have BK_g13:=Aside0.mk hbox
      clear hbox hb hg
      refine hK.out _ _ ⟨(blk_cell BK_g11.out 0).trans rfl,(blk_cell BK_g11.out 1).trans rfl,(blk_cell BK_g11.out 2).trans rfl,(blk_cell BK_g11.out 3).trans rfl,(blk_cell BK_g11.out 4).trans rfl,(HB.out.cell (World.block_lt_of_cell? w _ HX2.out)).trans HX2.out⟩ (fun hHeld => ?_)
      clear hK K
      refine norm_ (a':=?_) ?_ ?_
      rotate_left
      ·show Act.put _ (some 13) _ = _
       simp only [Act.put,List.setIfInBounds_toArray,List.set_cons_zero,List.set_cons_succ,i64_w,i32_w]
       rfl
      exact norm_ (by simp only [putAll,Act.put,List.setIfInBounds_toArray,List.set_cons_zero,List.set_cons_succ]) (hCont (g13,u1,u2,u3) _ ⟨BK_g6.out,BK_g11.out,BK_g13.out,(Kd.V_mono O_k2.out (ok':=(fun k_ => pz ≤ k_ ∧ k_ ≠ g13)) (fun k_ hk_ => by have h_:=HCH.out;omega)),(Kd.V_mono O_d2.out (ok':=(fun k_ => pz ≤ k_ ∧ k_ ≠ g13)) (fun k_ hk_ => by have h_:=HCH.out;omega)),(Kd.V_mono O_b.out (ok':=(fun k_ => pz ≤ k_ ∧ k_ ≠ g13)) (fun k_ hk_ => by have h_:=HCH.out;omega)),(Kd.R_mono O_g.out (ok':=(fun k_ => k_ ≠ g6 ∧ k_ < pz)) (fun k_ hk_ => by have h_:=HCH.out;omega)),GE_g13.out,(show pz ≤ g13 by have h_:=HCH.out;omega),NB_g6_g13,NB_g11_g13,HS.out,HB.out⟩)
     ·skip
      refine value_ (w1:=?_) (v:=?_) (by rfl) rfl ?_ ?_
      rotate_left 2
      ·go_simp
       constructor
       ·rfl
       ·rfl
      obtain ⟨g13,hg⟩ : ∃ g_ : Nat,g_ = w11.heap.size:=⟨_,rfl⟩
      obtain ⟨w12a,hwa⟩ : ∃ w_ : World,w11.alloc (.cells #[.int .u64 0,.slice none 0 0,.slice none 0 0,.bool false,.int .u64 0] 28) = w_:=⟨_,rfl⟩
      have hbox : w12a.heap[g13]? = some (.cells #[.int .u64 0,.slice none 0 0,.slice none 0 0,.bool false,.int .u64 0] 28 (0,0)):=by rw [← hwa,hg];exact blk_new _ _
      have hb : Below w11.heap.size w11 w12a:=by rw [← hwa];exact below_alloc (Below.refl _ _) _
      simp only [← hg,hwa]
      clear hwa
      have GE_g13:=Aside0.mk (show w.heap.size ≤ g13 by rw [hg];exact HB.out.size)
      have NB_g6_g13 : g6 ≠ g13:=(by rw [hg];exact Nat.ne_of_lt (blk_lt BK_g6.out))
      have NB_g13_g6:=NB_g6_g13.symm
      have NB_g11_g13 : g11 ≠ g13:=(by rw [hg];exact Nat.ne_of_lt (blk_lt BK_g11.out))
      have NB_g13_g11:=NB_g11_g13.symm
      replace HCH:=Aside0.mk (And.intro HCH.out (show pz ≤ g13 by rw [hg];exact HS.out))
      replace O_g:=Aside0.mk (Kd.R_mono (Kd.R_bound O_g.out) (ok':=fun k_ => ((fun k_ => k_ ≠ g6 ∧ k_ < pz)) k_ ∧ k_ ≠ g13) (fun k_ hk_ => ⟨hk_.1,by rw [hg];exact Nat.ne_of_lt hk_.2.2.1⟩))
      replace O_k1:=Aside0.mk (Kd.V_mono (Kd.V_bound O_k1.out) (ok':=fun k_ => ((fun k_ => pz ≤ k_ ∧ k_ ≠ g11)) k_ ∧ k_ ≠ g13) (fun k_ hk_ => ⟨hk_.1,by rw [hg];exact Nat.ne_of_lt hk_.2⟩))
      replace O_d1:=Aside0.mk (Kd.V_mono (Kd.V_bound O_d1.out) (ok':=fun k_ => ((fun k_ => pz ≤ k_ ∧ k_ ≠ g11)) k_ ∧ k_ ≠ g13) (fun k_ hk_ => ⟨hk_.1,by rw [hg];exact Nat.ne_of_lt hk_.2⟩))
      have n24_:=Aside0.mk (below_step HB.out hb)
      have n25_:=Aside0.mk ((Nat.le_trans (show _ ≤ _ from HS.out) hb.size : pz ≤ w12a.heap.size))
      have n26_:=Aside0.mk (blk_below BK_g6.out hb)
      have n27_:=Aside0.mk (blk_below BK_g11.out hb)
      have n28_:=Aside0.mk (Kd.R_below O_g.out hb)
      have n29_:=Aside0.mk (Kd.V_below O_k1.out hb)
      have n30_:=Aside0.mk (Kd.V_below O_d1.out hb)
      clear HB HS BK_g6 BK_g11 O_g O_k1 O_d1
      have HB:=n24_
      have HS:=n25_
      have BK_g6:=n26_
      have BK_g11:=n27_
      have O_g:=n28_
      have O_k1:=n29_
      have O_d1:=n30_
      clear n24_ n25_ n26_ n27_ n28_ n29_ n30_
      have BK_g13:=Aside0.mk hbox
      clear hbox hb hg
      refine hK.out _ _ ⟨(blk_cell BK_g11.out 0).trans rfl,(blk_cell BK_g11.out 1).trans rfl,(blk_cell BK_g11.out 2).trans rfl,(blk_cell BK_g11.out 3).trans rfl,(blk_cell BK_g11.out 4).trans rfl,(HB.out.cell (World.block_lt_of_cell? w _ HX2.out)).trans HX2.out⟩ (fun hHeld => ?_)
      clear hK K
      refine norm_ (a':=?_) ?_ ?_
      rotate_left
      ·show Act.put _ (some 13) _ = _
       simp only [Act.put,List.setIfInBounds_toArray,List.set_cons_zero,List.set_cons_succ,i64_w,i32_w]
       rfl
      refine one_ (i:=6) (N:=some 82) #[true,true,true,true,true,true,true,false,false,false,false,true,false,false,false] rfl rfl (by kernel_rfl) (by decide) (fun K hK => ?_)
      refine goes_ Try.func11 (by kernel_rfl) rfl #[.agg #[.int .u64 n1,.slice A_k1 K1.length p_k1,.slice A_d1 D1.length p_d1,.bool en1,.int .u64 sz1],.int .i64 pr] (by rfl) rfl rfl (by (try simp only [List.map_toArray,List.map_cons,List.map_nil]);first | done | rfl) ?_
      refine (gather_Read.calls k n1 _ _ K1 _ _ D1 en1 sz1 pr _ _ _ _ _ _ _ _ (Kd.V_reads' O_k1.out).2.2 (Kd.V_reads' O_k1.out).2.1 (Kd.V_reads' O_d1.out).2.2 (Kd.V_reads' O_d1.out).2.1 HR.out).mono ?_
      rintro e_ w12c11 ⟨u1,u2,u3,rfl,ho1,ho2,ho3,hb⟩
      refine ⟨_,rfl,?_⟩
      have O_k2:=Aside0.mk (Kd.R_V (base':=w.heap.size) (Kd.R_mono (Kd.R_bound ho1) (ok':=fun k_ => pz ≤ k_ ∧ k_ ≠ g6 ∧ k_ ≠ g11 ∧ k_ ≠ g13) (fun k_ hk_ => ⟨Nat.le_trans HS.out hk_.2.1,fun he_ => by have h_:=blk_lt BK_g6.out;have h2_:=hk_.2.1;omega,fun he_ => by have h_:=blk_lt BK_g11.out;have h2_:=hk_.2.1;omega,fun he_ => by have h_:=blk_lt BK_g13.out;have h2_:=hk_.2.1;omega⟩)))
      have O_d2:=Aside0.mk (Kd.R_V (base':=w.heap.size) (Kd.R_mono (Kd.R_bound ho2) (ok':=fun k_ => pz ≤ k_ ∧ k_ ≠ g6 ∧ k_ ≠ g11 ∧ k_ ≠ g13) (fun k_ hk_ => ⟨Nat.le_trans HS.out hk_.2.1,fun he_ => by have h_:=blk_lt BK_g6.out;have h2_:=hk_.2.1;omega,fun he_ => by have h_:=blk_lt BK_g11.out;have h2_:=hk_.2.1;omega,fun he_ => by have h_:=blk_lt BK_g13.out;have h2_:=hk_.2.1;omega⟩)))
      have O_b:=Aside0.mk (Kd.R_V (base':=w.heap.size) (Kd.R_mono (Kd.R_bound ho3) (ok':=fun k_ => pz ≤ k_ ∧ k_ ≠ g6 ∧ k_ ≠ g11 ∧ k_ ≠ g13) (fun k_ hk_ => ⟨Nat.le_trans HS.out hk_.2.1,fun he_ => by have h_:=blk_lt BK_g6.out;have h2_:=hk_.2.1;omega,fun he_ => by have h_:=blk_lt BK_g11.out;have h2_:=hk_.2.1;omega,fun he_ => by have h_:=blk_lt BK_g13.out;have h2_:=hk_.2.1;omega⟩)))
      clear ho1 ho2 ho3
      clear O_k1 O_d1
      have n31_:=Aside0.mk (below_step HB.out hb)
      have n32_:=Aside0.mk ((Nat.le_trans (show _ ≤ _ from HS.out) hb.size : pz ≤ w12c11.heap.size))
      have n33_:=Aside0.mk (blk_below BK_g6.out hb)
      have n34_:=Aside0.mk (blk_below BK_g11.out hb)
      have n35_:=Aside0.mk (blk_below BK_g13.out hb)
      have n36_:=Aside0.mk (Kd.R_below O_g.out hb)
      clear HB HS BK_g6 BK_g11 BK_g13 O_g
      have HB:=n31_
      have HS:=n32_
      have BK_g6:=n33_
      have BK_g11:=n34_
      have BK_g13:=n35_
      have O_g:=n36_
      clear n31_ n32_ n33_ n34_ n35_ n36_
      clear hb
      refine hK.out _ _ ⟨(blk_cell BK_g11.out 0).trans rfl,(blk_cell BK_g11.out 1).trans rfl,(blk_cell BK_g11.out 2).trans rfl,(blk_cell BK_g11.out 3).trans rfl,(blk_cell BK_g11.out 4).trans rfl,(HB.out.cell (World.block_lt_of_cell? w _ HX2.out)).trans HX2.out⟩ (fun hHeld => ?_)
      clear hK K
      refine norm_ (a':=?_) ?_ ?_
      rotate_left
      ·show Act.put _ (some 82) _ = _
       simp only [Act.put,List.setIfInBounds_toArray,List.set_cons_zero,List.set_cons_succ,i64_w,i32_w]
       rfl
      refine pure_ (i:=7) (N:=some 75) (v:=?_) (a':=?_) #[true,true,true,true,true,true,true,true,false,false,false,true,false,false,false] rfl rfl (by kernel_rfl) (fun _ _ _ h => h) (Or.inl ⟨by rfl,?_⟩) ?_ ?_
      rotate_left
      ·intro w'
       go_simp
       with_reducible rfl
      rotate_left
      ·simp only [Act.put,List.setIfInBounds_toArray,List.set_cons_zero,List.set_cons_succ,i64_w,i32_w]
       rfl
      refine pure_ (i:=8) (N:=some 83) (v:=?_) (a':=?_) #[true,true,true,true,true,true,true,true,true,false,false,true,false,false,false] rfl rfl (by kernel_rfl) (fun _ _ _ h => h) (Or.inl ⟨by rfl,?_⟩) ?_ ?_
      rotate_left
      ·intro w'
       go_simp
       with_reducible rfl
      rotate_left
      ·simp only [Act.put,List.setIfInBounds_toArray,List.set_cons_zero,List.set_cons_succ,i64_w,i32_w]
       rfl
      refine pure_ (i:=9) (N:=some 84) (v:=?_) (a':=?_) #[true,true,true,true,true,true,true,true,true,true,false,true,false,false,false] rfl rfl (by kernel_rfl) (fun _ _ _ h => h) (Or.inl ⟨by rfl,?_⟩) ?_ ?_
      rotate_left
      ·intro w'
       go_simp
       with_reducible rfl
      rotate_left
      ·simp only [Act.put,List.setIfInBounds_toArray,List.set_cons_zero,List.set_cons_succ,i64_w,i32_w]
       rfl
      refine pure_ (i:=10) (N:=some 85) (v:=?_) (a':=?_) #[true,true,true,true,true,true,true,true,true,true,true,true,false,false,false] rfl rfl (by kernel_rfl) (fun _ _ _ h => h) (Or.inl ⟨by rfl,?_⟩) ?_ ?_
      rotate_left
      ·intro w'
       go_simp
       with_reducible rfl
      rotate_left
      ·simp only [Act.put,List.setIfInBounds_toArray,List.set_cons_zero,List.set_cons_succ,i64_w,i32_w]
       rfl
      exact norm_ (by simp only [putAll,Act.put,List.setIfInBounds_toArray,List.set_cons_zero,List.set_cons_succ]) (hCont (g13,u1,u2,u3) _ ⟨BK_g6.out,BK_g11.out,BK_g13.out,(Kd.V_mono O_k2.out (ok':=(fun k_ => pz ≤ k_ ∧ k_ ≠ g13)) (fun k_ hk_ => by have h_:=HCH.out;omega)),(Kd.V_mono O_d2.out (ok':=(fun k_ => pz ≤ k_ ∧ k_ ≠ g13)) (fun k_ hk_ => by have h_:=HCH.out;omega)),(Kd.V_mono O_b.out (ok':=(fun k_ => pz ≤ k_ ∧ k_ ≠ g13)) (fun k_ hk_ => by have h_:=HCH.out;omega)),(Kd.R_mono O_g.out (ok':=(fun k_ => k_ ≠ g6 ∧ k_ < pz)) (fun k_ hk_ => by have h_:=HCH.out;omega)),GE_g13.out,(show pz ≤ g13 by have h_:=HCH.out;omega),NB_g6_g13,NB_g11_g13,HS.out,HB.out⟩)
    rintro ⟨g13,u1,u2,u3⟩ w15 ⟨f0,f1,f2,f3,f4,f5,f6,f7,f8,f9,f10,f11,f12⟩
    clear HB HS BK_g6 BK_g11 O_g O_k1 O_d1
    have BK_g6:=Aside0.mk f0
    have BK_g11:=Aside0.mk f1
    have BK_g13:=Aside0.mk f2
    have O_k2:=Aside0.mk f3
    have O_d2:=Aside0.mk f4
    have O_b:=Aside0.mk f5
    have O_g:=Aside0.mk f6
    have GE_g13:=Aside0.mk f7
    have HS:=Aside0.mk f11
    have HB:=Aside0.mk f12
    replace HCH:=Aside0.mk (And.intro HCH.out f8)
    have NB_g6_g13:=f9
    have NB_g13_g6:=NB_g6_g13.symm
    have NB_g11_g13:=f10
    have NB_g13_g11:=NB_g11_g13.symm
    clear f0 f1 f2 f3 f4 f5 f6 f7 f8 f9 f10 f11 f12
    have hHeld : w15.cell? ⟨g11,0,none⟩ = some (.int .u64 n1) ∧ w15.cell? ⟨g11,1,none⟩ = some (.slice A_k1 K1.length p_k1) ∧ w15.cell? ⟨g11,2,none⟩ = some (.slice A_d1 D1.length p_d1) ∧ w15.cell? ⟨g11,3,none⟩ = some (.bool en1) ∧ w15.cell? ⟨g11,4,none⟩ = some (.int .u64 sz1) ∧ w15.cell? ⟨(ad.add (i.toNat * 3)).block,(ad.add (i.toNat * 3)).off + 2,none⟩ = some (.int .i64 pr):=⟨(blk_cell BK_g11.out 0).trans rfl,(blk_cell BK_g11.out 1).trans rfl,(blk_cell BK_g11.out 2).trans rfl,(blk_cell BK_g11.out 3).trans rfl,(blk_cell BK_g11.out 4).trans rfl,(HB.out.cell (World.block_lt_of_cell? w _ HX2.out)).trans HX2.out⟩
    obtain ⟨A_k2,p_k2,eo⟩:=Kd.V_slice O_k2.out
    subst eo
    obtain ⟨A_d2,p_d2,eo⟩:=Kd.V_slice O_d2.out
    subst eo
    obtain ⟨A_b,p_b,eo⟩:=Kd.V_slice O_b.out
    subst eo
    have hx_g13_0 : w15.cell? ⟨g13,0,none⟩ = some (.int .u64 0):=(blk_cell BK_g13.out 0).trans rfl
    have hf_g13_0:=blk_frozen BK_g13.out 0
    have hx_g13_1 : w15.cell? ⟨g13,1,none⟩ = some (.slice none 0 0):=(blk_cell BK_g13.out 1).trans rfl
    have hf_g13_1:=blk_frozen BK_g13.out 1
    have hx_g13_2 : w15.cell? ⟨g13,2,none⟩ = some (.slice none 0 0):=(blk_cell BK_g13.out 2).trans rfl
    have hf_g13_2:=blk_frozen BK_g13.out 2
    have hx_g13_3 : w15.cell? ⟨g13,3,none⟩ = some (.bool false):=(blk_cell BK_g13.out 3).trans rfl
    have hf_g13_3:=blk_frozen BK_g13.out 3
    have hx_g13_4 : w15.cell? ⟨g13,4,none⟩ = some (.int .u64 0):=(blk_cell BK_g13.out 4).trans rfl
    have hf_g13_4:=blk_frozen BK_g13.out 4
    refine norm_ (a':=?_) ?_ ?_
    rotate_left
    ·simp only [putAll,Act.put,List.setIfInBounds_toArray,List.set_cons_zero,List.set_cons_succ]
     rfl
    refine last_ (i:=12) (N:=none) #[true,true,true,true,true,true,true,true,true,true,true,true,true,false,false] rfl rfl (by kernel_rfl) (by decide) (fun K hK => ?_)
    refine skip_ (w1:=?_) (by rfl) rfl ?_ ?_
    rotate_left
    ·go_simp
     rfl
    refine hK.out _ _ ?_
    clear hK K
    refine pure_ (i:=13) (N:=some 14) (v:=?_) (a':=?_) #[true,true,true,true,true,true,true,true,true,true,true,true,true,true,false] rfl rfl (by kernel_rfl) (fun _ _ _ h => h) (Or.inl ⟨by rfl,?_⟩) ?_ ?_
    rotate_left
    ·intro w'
     go_simp
     with_reducible rfl
    rotate_left
    ·simp only [Act.put,List.setIfInBounds_toArray,List.set_cons_zero,List.set_cons_succ,i64_w,i32_w]
     rfl
    refine pure_ (i:=14) (N:=some 15) (v:=?_) (a':=?_) #[true,true,true,true,true,true,true,true,true,true,true,true,true,true,true] rfl rfl (by kernel_rfl) (fun _ _ _ h => h) (Or.inl ⟨by rfl,?_⟩) ?_ ?_
    rotate_left
    ·intro w'
     go_simp
     with_reducible rfl
    rotate_left
    ·simp only [Act.put,List.setIfInBounds_toArray,List.set_cons_zero,List.set_cons_succ,i64_w,i32_w]
     rfl
    refine done_ (by kernel_rfl) ?_
    clear hx_g13_0 hf_g13_0 hx_g13_1 hf_g13_1 hx_g13_2 hf_g13_2 hx_g13_3 hf_g13_3 hx_g13_4 hf_g13_4
    obtain ⟨w16,hw24_⟩ : ∃ w_ : World,pre_set5 w15 g13 (.int .u64 n2) (.slice A_k2 K2.length p_k2) (.slice A_d2 D2.length p_d2) (.bool en2) (.int .u64 sz2) = w_:=⟨_,rfl⟩
    have n25_:=Aside0.mk (pre_blk5 hw24_ BK_g13.out)
    have n26_:=Aside0.mk (pre_far5 hw24_ NB_g6_g13 BK_g6.out)
    have n27_:=Aside0.mk (pre_far5 hw24_ NB_g11_g13 BK_g11.out)
    have n28_:=Aside0.mk (pre_R5o hw24_ (fun k_ hk_ => by have h_:=HCH.out;omega) O_g.out)
    have n29_:=Aside0.mk (pre_V5o hw24_ (fun k_ hk_ => by have h_:=HCH.out;omega) O_k2.out)
    have n30_:=Aside0.mk (pre_V5o hw24_ (fun k_ hk_ => by have h_:=HCH.out;omega) O_d2.out)
    have n31_:=Aside0.mk (pre_V5o hw24_ (fun k_ hk_ => by have h_:=HCH.out;omega) O_b.out)
    have n32_:=Aside0.mk (pre_below5 hw24_ GE_g13.out HB.out)
    have n33_:=Aside0.mk ((pre_size5 hw24_).symm ▸ HS.out)
    rw [pre_set5_fold,hw24_]
    clear hw24_ BK_g13 BK_g6 BK_g11 O_g O_k2 O_d2 O_b HB HS
    have BK_g13:=n25_
    have BK_g6:=n26_
    have BK_g11:=n27_
    have O_g:=n28_
    have O_k2:=n29_
    have O_d2:=n30_
    have O_b:=n31_
    have HB:=n32_
    have HS:=n33_
    clear n25_ n26_ n27_ n28_ n29_ n30_ n31_ n32_ n33_
    clear BK_g11
    have hx_g13_0 : w16.cell? ⟨g13,0,none⟩ = some (.int .u64 n2):=(blk_cell BK_g13.out 0).trans rfl
    have hf_g13_0:=blk_frozen BK_g13.out 0
    have hx_g13_1 : w16.cell? ⟨g13,1,none⟩ = some (.slice A_k2 K2.length p_k2):=(blk_cell BK_g13.out 1).trans rfl
    have hf_g13_1:=blk_frozen BK_g13.out 1
    have hx_g13_2 : w16.cell? ⟨g13,2,none⟩ = some (.slice A_d2 D2.length p_d2):=(blk_cell BK_g13.out 2).trans rfl
    have hf_g13_2:=blk_frozen BK_g13.out 2
    have hx_g13_3 : w16.cell? ⟨g13,3,none⟩ = some (.bool en2):=(blk_cell BK_g13.out 3).trans rfl
    have hf_g13_3:=blk_frozen BK_g13.out 3
    have hx_g13_4 : w16.cell? ⟨g13,4,none⟩ = some (.int .u64 sz2):=(blk_cell BK_g13.out 4).trans rfl
    have hf_g13_4:=blk_frozen BK_g13.out 4
    have hx_g6_0 : w16.cell? ⟨g6,0,none⟩ = some (.int .u64 nx):=(blk_cell BK_g6.out 0).trans rfl
    have hf_g6_0:=blk_frozen BK_g6.out 0
    have hx_g6_1 : w16.cell? ⟨g6,1,none⟩ = some (.slice A_k ks.length p_k):=(blk_cell BK_g6.out 1).trans rfl
    have hf_g6_1:=blk_frozen BK_g6.out 1
    have hx_g6_2 : w16.cell? ⟨g6,2,none⟩ = some (.slice A_d D.length p_d):=(blk_cell BK_g6.out 2).trans rfl
    have hf_g6_2:=blk_frozen BK_g6.out 2
    have hx_g6_3 : w16.cell? ⟨g6,3,none⟩ = some (.bool en):=(blk_cell BK_g6.out 3).trans rfl
    have hf_g6_3:=blk_frozen BK_g6.out 3
    have hx_g6_4 : w16.cell? ⟨g6,4,none⟩ = some (.int .u64 sz):=(blk_cell BK_g6.out 4).trans rfl
    have hf_g6_4:=blk_frozen BK_g6.out 4
    go_upto_region 16 with fail
    clear hx_g13_0 hf_g13_0 hx_g13_1 hf_g13_1 hx_g13_2 hf_g13_2 hx_g13_3 hf_g13_3 hx_g13_4 hf_g13_4 hx_g6_0 hf_g6_0 hx_g6_1 hf_g6_1 hx_g6_2 hf_g6_2 hx_g6_3 hf_g6_3 hx_g6_4 hf_g6_4
    obtain ⟨w17,hw34_⟩ : ∃ w_ : World,pre_set5 w16 g6 (.int .u64 n2) (.slice A_k2 K2.length p_k2) (.slice A_d2 D2.length p_d2) (.bool en2) (.int .u64 sz2) = w_:=⟨_,rfl⟩
    have n35_:=Aside0.mk (pre_blk5 hw34_ BK_g6.out)
    have n36_:=Aside0.mk (pre_far5 hw34_ NB_g13_g6 BK_g13.out)
    have n37_:=Aside0.mk (pre_R5o hw34_ (fun k_ hk_ => by have h_:=HCH.out;omega) O_g.out)
    have n38_:=Aside0.mk (pre_V5o hw34_ (fun k_ hk_ => by have h_:=HCH.out;omega) O_k2.out)
    have n39_:=Aside0.mk (pre_V5o hw34_ (fun k_ hk_ => by have h_:=HCH.out;omega) O_d2.out)
    have n40_:=Aside0.mk (pre_V5o hw34_ (fun k_ hk_ => by have h_:=HCH.out;omega) O_b.out)
    have n41_:=Aside0.mk (pre_below5 hw34_ GE_g6.out HB.out)
    have n42_:=Aside0.mk ((pre_size5 hw34_).symm ▸ HS.out)
    rw [pre_set5_fold,hw34_]
    clear hw34_ BK_g6 BK_g13 O_g O_k2 O_d2 O_b HB HS
    have BK_g6:=n35_
    have BK_g13:=n36_
    have O_g:=n37_
    have O_k2:=n38_
    have O_d2:=n39_
    have O_b:=n40_
    have HB:=n41_
    have HS:=n42_
    clear n35_ n36_ n37_ n38_ n39_ n40_ n41_ n42_
    clear BK_g13
    go_upto_region 17 with (first | ((with_reducible refine gate_builtin (b:=.append) (xs:=#[.tmp 87,.tmp 88]) rfl ?_);at_builtin;refine Kd.R_append_rows (Kd.int .u8) (w0:=w) w.heap.size rfl (.tmp 87) (.tmp 88) 23 5 (.int .u8 0) 1 rfl Try.underlying23 info5 rfl (by decide) (by omega) (.slice Ag got.length pg) got b _ _ _ (fun k_ => k_ ≠ g6) (fun _ => False) rfl rfl ?aO ?aR (fun _ _ h => h) (fun _ h => h.elim) ?aF ?aB ?aS ?aL ?_;(case aR => exact (Kd.V_reads' O_b.out).2.2);(case aB => exact HB.out);(case aF => exact fun k_ hk_ => by have h_:=HCH.out;have h2_:=HS.out;omega);(case aO => exact Kd.R_mono O_g.out (fun k_ hk_ => hk_.1));(case aS => exact HB.out.size);(case aL => have h_:=HGL.out;have h2_:=HOK.out.1;have h3_:=HN.out;omega);intro v89 w18 ho hb hg hat;rw [HGT.out] at ho;have nO_k2_:=Aside0.mk (Kd.V_after (Kd.V_mono O_k2.out (ok':=(fun k_ => k_ ≠ g6 ∧ some k_ ≠ (.slice Ag got.length pg : Value).ownBlock)) (fun k_ hk_ => ⟨by have h_:=HCH.out;omega,fun he_ => by have h_:=HVG.out k_ he_.symm;have h2_:=hk_.1;omega⟩)) hg hat);have nO_d2_:=Aside0.mk (Kd.V_after (Kd.V_mono O_d2.out (ok':=(fun k_ => k_ ≠ g6 ∧ some k_ ≠ (.slice Ag got.length pg : Value).ownBlock)) (fun k_ hk_ => ⟨by have h_:=HCH.out;omega,fun he_ => by have h_:=HVG.out k_ he_.symm;have h2_:=hk_.1;omega⟩)) hg hat);have nBK_g6_:=Aside0.mk (blk_grown BK_g6.out hg (Kd.R_ne O_g.out BK_g6.out (by decide)));have nHB_:=Aside0.mk (hb);have nO_g_:=Aside0.mk (ho);clear O_b HS HVG O_k2 O_d2 BK_g6 HB O_g;have O_k2:=nO_k2_;have O_d2:=nO_d2_;have BK_g6:=nBK_g6_;have HB:=nHB_;have O_g:=nO_g_;clear ho hb hg hat nO_k2_ nO_d2_ nBK_g6_ nHB_ nO_g_;obtain ⟨Ah,ph,eo⟩:=Kd.R_slice O_g.out;subst eo))
    have hgr:=HOK.out.1
    have hn_:=HN.out
    obtain ⟨i0_,hi0_,_,hsz_,_⟩:=info_parts info5
    have hcut_:=cut_to (P:=Try.prog) 23 5 .i64 Try.underlying23 hi0_ A0 l0.length c0 (gt.length : Int) (by omega) (by omega) HC0.out
    rw [Int.toNat_natCast] at hcut_
    have htk_:=Kd.C_take (m:=gt.length) (Kd.C_below HR0.out HB.out) (by omega)
    rw [← HOK.out.2.1] at htk_
    have hcv1:=Kd.C_string (P:=Try.prog) (A:=Ah) (c:=ph) Try.underlying23 Try.underlying5 Try.underlying9 (Kd.R_reads' O_g.out).2.2
    have hcv1d:=Kd.C_string (P:=Try.prog) (A:=Ah) (c:=ph) Try.underlying23 Try.underlying5 Try.underlying9 (Kd.C_drew (Kd.R_reads' O_g.out).2.2)
    have hcv2:=Kd.C_string (P:=Try.prog) (A:=A0) (c:=c0) Try.underlying23 Try.underlying5 Try.underlying9 htk_
    have hcv2d:=Kd.C_string (P:=Try.prog) (A:=A0) (c:=c0) Try.underlying23 Try.underlying5 Try.underlying9 (Kd.C_drew htk_)
    have sq : ((strOfNums gt).toList == (strOfNums gt).toList) = true:=beq_self_eq_true _
    have g1_ : decide ((gt.length : Int) > (l0.length : Int)) = false:=decide_eq_false (by omega)
    have g2_ : decide ((l0.length : Int) < (gt.length : Int)) = false:=decide_eq_false (by omega)
    have g3_ : decide (l0.length < gt.length) = false:=decide_eq_false (by omega)
    have g4_ : ((gt.length : Int) ≤ (l0.length : Int)) = True:=eq_true (by omega)
    have g5_ : (gt.length ≤ l0.length) = True:=eq_true hgr
    have hmx:=HOK.out.2.2.2
    obtain ⟨mz,hmz⟩ : ∃ y_ : Int,mx pr 0 = y_:=⟨_,rfl⟩
    rw [hmz] at hmx
    have g6_ : (if pr < 0 then (0 : Int) else pr) = mz:=hmz
    have g7_ : decide ((b.length : Int) > mz) = false:=decide_eq_false (by omega)
    have g8_ : decide (mz < (b.length : Int)) = false:=decide_eq_false (by omega)
    have hx2:=(HB.out.cell (World.block_lt_of_cell? w _ HX2.out)).trans HX2.out
    clear hi0_ hsz_ htk_ hmz hmx hn_ hgr
    cases ov with
    | true =>
     have hle:=HOK.out.2.2.1 rfl
     have h1_ : ((gt.length : Int) != (l0.length : Int)) = false:=by rw [hle];simp
     have h2_ : ((gt.length : Int) == (l0.length : Int)) = true:=by rw [hle];simp
     have h3_ : decide ((gt.length : Int) = (l0.length : Int)) = true:=decide_eq_true (by rw [hle])
     clear hle
     go_region
     all_goals go_wp2
     all_goals go_roundg k1
     all_goals first | omega | (exact ⟨wrap64 (i + 1),n2,K2,D2,en2,sz2,gt,_,_,_,rfl,(by first | rfl | simp only [hw]),⟨by have h2:=HI.out;rw [hw];omega⟩,⟨by rw [HI2.out];exact HQ2.out⟩,(by first | exact O_k2 | exact ⟨Kd.V_drew O_k2.out⟩),(by first | exact O_d2 | exact ⟨Kd.V_drew O_d2.out⟩),(by first | exact O_g | exact ⟨Kd.R_drew O_g.out⟩),(by first | exact BK_g6 | exact ⟨blk_drew BK_g6.out⟩),(by first | exact HB | exact ⟨below_drew1 HB.out⟩)⟩)
    | false =>
     go_region
     all_goals go_wp2
     all_goals go_roundg k1
     all_goals first | omega | (exact ⟨wrap64 (i + 1),n2,K2,D2,en2,sz2,gt,_,_,_,rfl,(by first | rfl | simp only [hw]),⟨by have h2:=HI.out;rw [hw];omega⟩,⟨by rw [HI2.out];exact HQ2.out⟩,(by first | exact O_k2 | exact ⟨Kd.V_drew O_k2.out⟩),(by first | exact O_d2 | exact ⟨Kd.V_drew O_d2.out⟩),(by first | exact O_g | exact ⟨Kd.R_drew O_g.out⟩),(by first | exact BK_g6 | exact ⟨blk_drew BK_g6.out⟩),(by first | exact HB | exact ⟨below_drew1 HB.out⟩)⟩)
 case rest =>
 clear BK_g6 HB
 obtain ⟨vk,vd,vg,rfl,O_k,O_d,O_g,BK_g6,HB⟩:=hcut
 obtain ⟨pz,hpz⟩ : ∃ n_ : Nat,n_ = wc.heap.size:=⟨_,rfl⟩
 obtain ⟨Ag,pg,eo⟩:=Kd.R_slice O_g.out
 subst eo
 have HVG:=Aside0.mk (Kd.R_lt O_g.out)
 rw [← hpz] at HVG
 replace O_k:=Aside0.mk (Kd.V_mono (Kd.V_bound O_k.out) (ok':=(fun k_ => (k_ ≠ g6 ∧ some k_ ≠ (.slice Ag got9.length pg : Value).ownBlock) ∧ k_ < pz)) (fun k_ hk_ => ⟨hk_.1,by rw [hpz];exact hk_.2⟩))
 obtain ⟨A_k,p_k,eo⟩:=Kd.V_slice O_k.out
 subst eo
 replace O_d:=Aside0.mk (Kd.V_mono (Kd.V_bound O_d.out) (ok':=(fun k_ => (k_ ≠ g6 ∧ some k_ ≠ (.slice Ag got9.length pg : Value).ownBlock) ∧ k_ < pz)) (fun k_ hk_ => ⟨hk_.1,by rw [hpz];exact hk_.2⟩))
 obtain ⟨A_d,p_d,eo⟩:=Kd.V_slice O_d.out
 subst eo
 replace O_g:=Aside0.mk (Kd.R_mono (Kd.R_bound O_g.out) (ok':=(fun k_ => k_ ≠ g6 ∧ k_ < pz)) (fun k_ hk_ => ⟨hk_.1,by rw [hpz];exact hk_.2.2.1⟩))
 have HCH:=Aside0.mk (show g6 < pz by rw [hpz];exact blk_lt BK_g6.out)
 have HS:=Aside0.mk (show pz ≤ wc.heap.size by rw [hpz];exact Nat.le_refl _)
 clear hpz
 have hx_g6_0 : wc.cell? ⟨g6,0,none⟩ = some (.int .u64 nx9):=(blk_cell BK_g6.out 0).trans rfl
 have hf_g6_0:=blk_frozen BK_g6.out 0
 have hx_g6_1 : wc.cell? ⟨g6,1,none⟩ = some (.slice A_k K9.length p_k):=(blk_cell BK_g6.out 1).trans rfl
 have hf_g6_1:=blk_frozen BK_g6.out 1
 have hx_g6_2 : wc.cell? ⟨g6,2,none⟩ = some (.slice A_d D9.length p_d):=(blk_cell BK_g6.out 2).trans rfl
 have hf_g6_2:=blk_frozen BK_g6.out 2
 have hx_g6_3 : wc.cell? ⟨g6,3,none⟩ = some (.bool en9):=(blk_cell BK_g6.out 3).trans rfl
 have hf_g6_3:=blk_frozen BK_g6.out 3
 have hx_g6_4 : wc.cell? ⟨g6,4,none⟩ = some (.int .u64 sz9):=(blk_cell BK_g6.out 4).trans rfl
 have hf_g6_4:=blk_frozen BK_g6.out 4
 go_upto_region 19 with fail
 go_upto_region 20 with (first
  | ((with_reducible refine gate_callee (f:=10) rfl ?_);refine goesL_ (some 129) rfl rfl Try.func10 (by kernel_rfl) rfl #[.agg #[.int .u64 nx9,.slice A_k K9.length p_k,.slice A_d D9.length p_d,.bool en9,.int .u64 sz9],.int .u64 0,.slice A0 l0.length c0,.bool true] rfl (by (try simp only [List.map_toArray,List.map_cons,List.map_nil]);first | done | rfl) ?_;refine (gather_Put.calls k nx9 _ _ K9 _ _ D9 en9 sz9 0 _ _ l0 true _ _ _ _ _ _ _ (Kd.V_reads' O_k.out).2.2 (Kd.V_reads' O_k.out).2.1 (Kd.V_reads' O_d.out).2.2 (Kd.V_reads' O_d.out).2.1 (Kd.C_below HR0.out HB.out) HC0.out P2.out).mono ?_;rintro e_ w21 ⟨u1,u2,rfl,ho1,ho2,hb⟩;refine ⟨_,rfl,?_⟩;have O_k3:=Aside0.mk (Kd.R_V (base':=w.heap.size) (Kd.R_mono (Kd.R_bound ho1) (ok':=fun k_ => pz ≤ k_) (fun k_ hk_ => Nat.le_trans HS.out hk_.2.1)));have O_d3:=Aside0.mk (Kd.R_V (base':=w.heap.size) (Kd.R_mono (Kd.R_bound ho2) (ok':=fun k_ => pz ≤ k_) (fun k_ hk_ => Nat.le_trans HS.out hk_.2.1)));clear ho1 ho2;clear hx_g6_0 hf_g6_0 hx_g6_1 hf_g6_1 hx_g6_2 hf_g6_2 hx_g6_3 hf_g6_3 hx_g6_4 hf_g6_4;have n1_:=Aside0.mk (below_step HB.out hb);have n2_:=Aside0.mk ((Nat.le_trans (show _ ≤ _ from HS.out) hb.size : pz ≤ w21.heap.size));have n3_:=Aside0.mk (blk_below BK_g6.out hb);have n4_:=Aside0.mk (Kd.V_below O_k.out hb);have n5_:=Aside0.mk (Kd.V_below O_d.out hb);have n6_:=Aside0.mk (Kd.R_below O_g.out hb);clear HB HS BK_g6 O_k O_d O_g;have HB:=n1_;have HS:=n2_;have BK_g6:=n3_;have O_k:=n4_;have O_d:=n5_;have O_g:=n6_;clear n1_ n2_ n3_ n4_ n5_ n6_;clear hb;obtain ⟨A_k3,p_k3,eo⟩:=Kd.V_slice O_k3.out;subst eo;obtain ⟨A_d3,p_d3,eo⟩:=Kd.V_slice O_d3.out;subst eo)
  | ((with_reducible refine gate_dst (N:=16) rfl ?_);refine box_event ?hg (N:=16) ?hd (cs:=#[.int .u64 0,.slice none 0 0,.slice none 0 0,.bool false,.int .u64 0]) (t:=28) ?hr ?_;(case hd => rfl);(case hg => rfl);(case hr => first | (go_simp;done) | (go_simp;rfl));intro g16 hg w22 hbox hb;have GE_g16:=Aside0.mk (show w.heap.size ≤ g16 by rw [hg];exact HB.out.size);have NB_g6_g16 : g6 ≠ g16:=(by rw [hg];exact Nat.ne_of_lt (blk_lt BK_g6.out));have NB_g16_g6:=NB_g6_g16.symm;replace HCH:=Aside0.mk (And.intro HCH.out (show pz ≤ g16 by rw [hg];exact HS.out));replace O_k:=Aside0.mk (Kd.V_mono (Kd.V_bound O_k.out) (ok':=fun k_ => ((fun k_ => (k_ ≠ g6 ∧ some k_ ≠ (.slice Ag got9.length pg : Value).ownBlock) ∧ k_ < pz)) k_ ∧ k_ ≠ g16) (fun k_ hk_ => ⟨hk_.1,by rw [hg];exact Nat.ne_of_lt hk_.2⟩));replace O_d:=Aside0.mk (Kd.V_mono (Kd.V_bound O_d.out) (ok':=fun k_ => ((fun k_ => (k_ ≠ g6 ∧ some k_ ≠ (.slice Ag got9.length pg : Value).ownBlock) ∧ k_ < pz)) k_ ∧ k_ ≠ g16) (fun k_ hk_ => ⟨hk_.1,by rw [hg];exact Nat.ne_of_lt hk_.2⟩));replace O_g:=Aside0.mk (Kd.R_mono (Kd.R_bound O_g.out) (ok':=fun k_ => ((fun k_ => k_ ≠ g6 ∧ k_ < pz)) k_ ∧ k_ ≠ g16) (fun k_ hk_ => ⟨hk_.1,by rw [hg];exact Nat.ne_of_lt hk_.2.2.1⟩));replace O_k3:=Aside0.mk (Kd.V_mono (Kd.V_bound O_k3.out) (ok':=fun k_ => ((fun k_ => pz ≤ k_)) k_ ∧ k_ ≠ g16) (fun k_ hk_ => ⟨hk_.1,by rw [hg];exact Nat.ne_of_lt hk_.2⟩));replace O_d3:=Aside0.mk (Kd.V_mono (Kd.V_bound O_d3.out) (ok':=fun k_ => ((fun k_ => pz ≤ k_)) k_ ∧ k_ ≠ g16) (fun k_ hk_ => ⟨hk_.1,by rw [hg];exact Nat.ne_of_lt hk_.2⟩));have n7_:=Aside0.mk (below_step HB.out hb);have n8_:=Aside0.mk ((Nat.le_trans (show _ ≤ _ from HS.out) hb.size : pz ≤ w22.heap.size));have n9_:=Aside0.mk (blk_below BK_g6.out hb);have n10_:=Aside0.mk (Kd.V_below O_k.out hb);have n11_:=Aside0.mk (Kd.V_below O_d.out hb);have n12_:=Aside0.mk (Kd.R_below O_g.out hb);have n13_:=Aside0.mk (Kd.V_below O_k3.out hb);have n14_:=Aside0.mk (Kd.V_below O_d3.out hb);clear HB HS BK_g6 O_k O_d O_g O_k3 O_d3;have HB:=n7_;have HS:=n8_;have BK_g6:=n9_;have O_k:=n10_;have O_d:=n11_;have O_g:=n12_;have O_k3:=n13_;have O_d3:=n14_;clear n7_ n8_ n9_ n10_ n11_ n12_ n13_ n14_;have BK_g16:=Aside0.mk hbox;clear hbox hb hg;have hx_g16_0 : w22.cell? ⟨g16,0,none⟩ = some (.int .u64 0):=(blk_cell BK_g16.out 0).trans rfl;have hf_g16_0:=blk_frozen BK_g16.out 0;have hx_g16_1 : w22.cell? ⟨g16,1,none⟩ = some (.slice none 0 0):=(blk_cell BK_g16.out 1).trans rfl;have hf_g16_1:=blk_frozen BK_g16.out 1;have hx_g16_2 : w22.cell? ⟨g16,2,none⟩ = some (.slice none 0 0):=(blk_cell BK_g16.out 2).trans rfl;have hf_g16_2:=blk_frozen BK_g16.out 2;have hx_g16_3 : w22.cell? ⟨g16,3,none⟩ = some (.bool false):=(blk_cell BK_g16.out 3).trans rfl;have hf_g16_3:=blk_frozen BK_g16.out 3;have hx_g16_4 : w22.cell? ⟨g16,4,none⟩ = some (.int .u64 0):=(blk_cell BK_g16.out 4).trans rfl;have hf_g16_4:=blk_frozen BK_g16.out 4))
 clear O_k O_d
 clear hx_g16_0 hf_g16_0 hx_g16_1 hf_g16_1 hx_g16_2 hf_g16_2 hx_g16_3 hf_g16_3 hx_g16_4 hf_g16_4
 obtain ⟨w23,hw15_⟩ : ∃ w_ : World,pre_set5 w22 g16 (.int .u64 x1) (.slice A_k3 x2.length p_k3) (.slice A_d3 x3.length p_d3) (.bool x4) (.int .u64 x5) = w_:=⟨_,rfl⟩
 have n16_:=Aside0.mk (pre_blk5 hw15_ BK_g16.out)
 have n17_:=Aside0.mk (pre_far5 hw15_ NB_g6_g16 BK_g6.out)
 have n18_:=Aside0.mk (pre_R5o hw15_ (fun k_ hk_ => by have h_:=HCH.out;omega) O_g.out)
 have n19_:=Aside0.mk (pre_V5o hw15_ (fun k_ hk_ => by have h_:=HCH.out;omega) O_k3.out)
 have n20_:=Aside0.mk (pre_V5o hw15_ (fun k_ hk_ => by have h_:=HCH.out;omega) O_d3.out)
 have n21_:=Aside0.mk (pre_below5 hw15_ GE_g16.out HB.out)
 have n22_:=Aside0.mk ((pre_size5 hw15_).symm ▸ HS.out)
 rw [pre_set5_fold,hw15_]
 clear hw15_ BK_g16 BK_g6 O_g O_k3 O_d3 HB HS
 have BK_g16:=n16_
 have BK_g6:=n17_
 have O_g:=n18_
 have O_k3:=n19_
 have O_d3:=n20_
 have HB:=n21_
 have HS:=n22_
 clear n16_ n17_ n18_ n19_ n20_ n21_ n22_
 have hx_g16_0 : w23.cell? ⟨g16,0,none⟩ = some (.int .u64 x1):=(blk_cell BK_g16.out 0).trans rfl
 have hf_g16_0:=blk_frozen BK_g16.out 0
 have hx_g16_1 : w23.cell? ⟨g16,1,none⟩ = some (.slice A_k3 x2.length p_k3):=(blk_cell BK_g16.out 1).trans rfl
 have hf_g16_1:=blk_frozen BK_g16.out 1
 have hx_g16_2 : w23.cell? ⟨g16,2,none⟩ = some (.slice A_d3 x3.length p_d3):=(blk_cell BK_g16.out 2).trans rfl
 have hf_g16_2:=blk_frozen BK_g16.out 2
 have hx_g16_3 : w23.cell? ⟨g16,3,none⟩ = some (.bool x4):=(blk_cell BK_g16.out 3).trans rfl
 have hf_g16_3:=blk_frozen BK_g16.out 3
 have hx_g16_4 : w23.cell? ⟨g16,4,none⟩ = some (.int .u64 x5):=(blk_cell BK_g16.out 4).trans rfl
 have hf_g16_4:=blk_frozen BK_g16.out 4
 go_upto_region 21 with (first
  | ((with_reducible refine gate_callee (f:=11) rfl ?_);refine goesL_ (some 134) rfl rfl Try.func11 (by kernel_rfl) rfl #[.agg #[.int .u64 x1,.slice A_k3 x2.length p_k3,.slice A_d3 x3.length p_d3,.bool x4,.int .u64 x5],.int .i64 1000] rfl (by (try simp only [List.map_toArray,List.map_cons,List.map_nil]);first | done | rfl) ?_;refine (gather_Read.calls k x1 _ _ x2 _ _ x3 x4 x5 1000 _ _ _ _ _ _ _ _ (Kd.V_reads' O_k3.out).2.2 (Kd.V_reads' O_k3.out).2.1 (Kd.V_reads' O_d3.out).2.2 (Kd.V_reads' O_d3.out).2.1 P3.out).mono ?_;rintro e_ w24 ⟨u1,u2,u3,rfl,ho1,ho2,ho3,hb⟩;refine ⟨_,rfl,?_⟩;have O_k4:=Aside0.mk (Kd.R_V (base':=w.heap.size) (Kd.R_mono (Kd.R_bound ho1) (ok':=fun k_ => pz ≤ k_) (fun k_ hk_ => Nat.le_trans HS.out hk_.2.1)));have O_d4:=Aside0.mk (Kd.R_V (base':=w.heap.size) (Kd.R_mono (Kd.R_bound ho2) (ok':=fun k_ => pz ≤ k_) (fun k_ hk_ => Nat.le_trans HS.out hk_.2.1)));have O_b:=Aside0.mk (Kd.R_V (base':=w.heap.size) (Kd.R_mono (Kd.R_bound ho3) (ok':=fun k_ => pz ≤ k_) (fun k_ hk_ => Nat.le_trans HS.out hk_.2.1)));clear ho1 ho2 ho3;clear hx_g16_0 hf_g16_0 hx_g16_1 hf_g16_1 hx_g16_2 hf_g16_2 hx_g16_3 hf_g16_3 hx_g16_4 hf_g16_4;have n23_:=Aside0.mk (below_step HB.out hb);have n24_:=Aside0.mk ((Nat.le_trans (show _ ≤ _ from HS.out) hb.size : pz ≤ w24.heap.size));have n25_:=Aside0.mk (blk_below BK_g6.out hb);have n26_:=Aside0.mk (blk_below BK_g16.out hb);have n27_:=Aside0.mk (Kd.R_below O_g.out hb);have n28_:=Aside0.mk (Kd.V_below O_k3.out hb);have n29_:=Aside0.mk (Kd.V_below O_d3.out hb);clear HB HS BK_g6 BK_g16 O_g O_k3 O_d3;have HB:=n23_;have HS:=n24_;have BK_g6:=n25_;have BK_g16:=n26_;have O_g:=n27_;have O_k3:=n28_;have O_d3:=n29_;clear n23_ n24_ n25_ n26_ n27_ n28_ n29_;clear hb;obtain ⟨A_k4,p_k4,eo⟩:=Kd.V_slice O_k4.out;subst eo;obtain ⟨A_d4,p_d4,eo⟩:=Kd.V_slice O_d4.out;subst eo;obtain ⟨A_b,p_b,eo⟩:=Kd.V_slice O_b.out;subst eo)
  | ((with_reducible refine gate_dst (N:=18) rfl ?_);refine box_event ?hg (N:=18) ?hd (cs:=#[.int .u64 0,.slice none 0 0,.slice none 0 0,.bool false,.int .u64 0]) (t:=28) ?hr ?_;(case hd => rfl);(case hg => rfl);(case hr => first | (go_simp;done) | (go_simp;rfl));intro g18 hg w25 hbox hb;have GE_g18:=Aside0.mk (show w.heap.size ≤ g18 by rw [hg];exact HB.out.size);have NB_g6_g18 : g6 ≠ g18:=(by rw [hg];exact Nat.ne_of_lt (blk_lt BK_g6.out));have NB_g18_g6:=NB_g6_g18.symm;have NB_g16_g18 : g16 ≠ g18:=(by rw [hg];exact Nat.ne_of_lt (blk_lt BK_g16.out));have NB_g18_g16:=NB_g16_g18.symm;replace HCH:=Aside0.mk (And.intro HCH.out (show pz ≤ g18 by rw [hg];exact HS.out));replace O_g:=Aside0.mk (Kd.R_mono (Kd.R_bound O_g.out) (ok':=fun k_ => ((fun k_ => ((fun k_ => k_ ≠ g6 ∧ k_ < pz)) k_ ∧ k_ ≠ g16)) k_ ∧ k_ ≠ g18) (fun k_ hk_ => ⟨hk_.1,by rw [hg];exact Nat.ne_of_lt hk_.2.2.1⟩));replace O_k3:=Aside0.mk (Kd.V_mono (Kd.V_bound O_k3.out) (ok':=fun k_ => ((fun k_ => ((fun k_ => pz ≤ k_)) k_ ∧ k_ ≠ g16)) k_ ∧ k_ ≠ g18) (fun k_ hk_ => ⟨hk_.1,by rw [hg];exact Nat.ne_of_lt hk_.2⟩));replace O_d3:=Aside0.mk (Kd.V_mono (Kd.V_bound O_d3.out) (ok':=fun k_ => ((fun k_ => ((fun k_ => pz ≤ k_)) k_ ∧ k_ ≠ g16)) k_ ∧ k_ ≠ g18) (fun k_ hk_ => ⟨hk_.1,by rw [hg];exact Nat.ne_of_lt hk_.2⟩));replace O_k4:=Aside0.mk (Kd.V_mono (Kd.V_bound O_k4.out) (ok':=fun k_ => ((fun k_ => pz ≤ k_)) k_ ∧ k_ ≠ g18) (fun k_ hk_ => ⟨hk_.1,by rw [hg];exact Nat.ne_of_lt hk_.2⟩));replace O_d4:=Aside0.mk (Kd.V_mono (Kd.V_bound O_d4.out) (ok':=fun k_ => ((fun k_ => pz ≤ k_)) k_ ∧ k_ ≠ g18) (fun k_ hk_ => ⟨hk_.1,by rw [hg];exact Nat.ne_of_lt hk_.2⟩));replace O_b:=Aside0.mk (Kd.V_mono (Kd.V_bound O_b.out) (ok':=fun k_ => ((fun k_ => pz ≤ k_)) k_ ∧ k_ ≠ g18) (fun k_ hk_ => ⟨hk_.1,by rw [hg];exact Nat.ne_of_lt hk_.2⟩));have n30_:=Aside0.mk (below_step HB.out hb);have n31_:=Aside0.mk ((Nat.le_trans (show _ ≤ _ from HS.out) hb.size : pz ≤ w25.heap.size));have n32_:=Aside0.mk (blk_below BK_g6.out hb);have n33_:=Aside0.mk (blk_below BK_g16.out hb);have n34_:=Aside0.mk (Kd.R_below O_g.out hb);have n35_:=Aside0.mk (Kd.V_below O_k3.out hb);have n36_:=Aside0.mk (Kd.V_below O_d3.out hb);have n37_:=Aside0.mk (Kd.V_below O_k4.out hb);have n38_:=Aside0.mk (Kd.V_below O_d4.out hb);have n39_:=Aside0.mk (Kd.V_below O_b.out hb);clear HB HS BK_g6 BK_g16 O_g O_k3 O_d3 O_k4 O_d4 O_b;have HB:=n30_;have HS:=n31_;have BK_g6:=n32_;have BK_g16:=n33_;have O_g:=n34_;have O_k3:=n35_;have O_d3:=n36_;have O_k4:=n37_;have O_d4:=n38_;have O_b:=n39_;clear n30_ n31_ n32_ n33_ n34_ n35_ n36_ n37_ n38_ n39_;have BK_g18:=Aside0.mk hbox;clear hbox hb hg;have hx_g18_0 : w25.cell? ⟨g18,0,none⟩ = some (.int .u64 0):=(blk_cell BK_g18.out 0).trans rfl;have hf_g18_0:=blk_frozen BK_g18.out 0;have hx_g18_1 : w25.cell? ⟨g18,1,none⟩ = some (.slice none 0 0):=(blk_cell BK_g18.out 1).trans rfl;have hf_g18_1:=blk_frozen BK_g18.out 1;have hx_g18_2 : w25.cell? ⟨g18,2,none⟩ = some (.slice none 0 0):=(blk_cell BK_g18.out 2).trans rfl;have hf_g18_2:=blk_frozen BK_g18.out 2;have hx_g18_3 : w25.cell? ⟨g18,3,none⟩ = some (.bool false):=(blk_cell BK_g18.out 3).trans rfl;have hf_g18_3:=blk_frozen BK_g18.out 3;have hx_g18_4 : w25.cell? ⟨g18,4,none⟩ = some (.int .u64 0):=(blk_cell BK_g18.out 4).trans rfl;have hf_g18_4:=blk_frozen BK_g18.out 4))
 clear hx_g18_0 hf_g18_0 hx_g18_1 hf_g18_1 hx_g18_2 hf_g18_2 hx_g18_3 hf_g18_3 hx_g18_4 hf_g18_4
 obtain ⟨w26,hw40_⟩ : ∃ w_ : World,pre_set5 w25 g18 (.int .u64 z1) (.slice A_k4 z2.length p_k4) (.slice A_d4 z3.length p_d4) (.bool z4) (.int .u64 z5) = w_:=⟨_,rfl⟩
 have n41_:=Aside0.mk (pre_blk5 hw40_ BK_g18.out)
 have n42_:=Aside0.mk (pre_far5 hw40_ NB_g6_g18 BK_g6.out)
 have n43_:=Aside0.mk (pre_far5 hw40_ NB_g16_g18 BK_g16.out)
 have n44_:=Aside0.mk (pre_R5o hw40_ (fun k_ hk_ => by have h_:=HCH.out;omega) O_g.out)
 have n45_:=Aside0.mk (pre_V5o hw40_ (fun k_ hk_ => by have h_:=HCH.out;omega) O_k3.out)
 have n46_:=Aside0.mk (pre_V5o hw40_ (fun k_ hk_ => by have h_:=HCH.out;omega) O_d3.out)
 have n47_:=Aside0.mk (pre_V5o hw40_ (fun k_ hk_ => by have h_:=HCH.out;omega) O_k4.out)
 have n48_:=Aside0.mk (pre_V5o hw40_ (fun k_ hk_ => by have h_:=HCH.out;omega) O_d4.out)
 have n49_:=Aside0.mk (pre_V5o hw40_ (fun k_ hk_ => by have h_:=HCH.out;omega) O_b.out)
 have n50_:=Aside0.mk (pre_below5 hw40_ GE_g18.out HB.out)
 have n51_:=Aside0.mk ((pre_size5 hw40_).symm ▸ HS.out)
 rw [pre_set5_fold,hw40_]
 clear hw40_ BK_g18 BK_g6 BK_g16 O_g O_k3 O_d3 O_k4 O_d4 O_b HB HS
 have BK_g18:=n41_
 have BK_g6:=n42_
 have BK_g16:=n43_
 have O_g:=n44_
 have O_k3:=n45_
 have O_d3:=n46_
 have O_k4:=n47_
 have O_d4:=n48_
 have O_b:=n49_
 have HB:=n50_
 have HS:=n51_
 clear n41_ n42_ n43_ n44_ n45_ n46_ n47_ n48_ n49_ n50_ n51_
 go_upto_region 22 with (first | ((with_reducible refine gate_builtin (b:=.append) (xs:=#[.tmp 138,.tmp 139]) rfl ?_);at_builtin;refine Kd.R_append_rows (Kd.int .u8) (w0:=w) w.heap.size rfl (.tmp 138) (.tmp 139) 23 5 (.int .u8 0) 1 rfl Try.underlying23 info5 rfl (by decide) (by omega) (.slice Ag got9.length pg) got9 z6 _ _ _ (fun _ => True) (fun _ => False) rfl rfl ?aO ?aR (fun _ _ h => h) (fun _ h => h.elim) ?aF ?aB ?aS ?aL ?_;(case aR => exact (Kd.V_reads' O_b.out).2.2);(case aB => exact HB.out);(case aF => exact fun _ _ => trivial);(case aO => exact Kd.R_mono O_g.out (fun _ _ => trivial));(case aS => exact HB.out.size);(case aL => have h_:=P5.out;omega);intro v140 w27 ho hb hg hat;rw [P4.out] at ho;clear HB HS O_g;have HB:=Aside0.mk hb;have O_g:=Aside0.mk ho;clear ho hb hg hat;obtain ⟨Ah,ph,eo⟩:=Kd.R_slice O_g.out;subst eo))
 have hcv1:=Kd.C_string (P:=Try.prog) (A:=Ah) (c:=ph) Try.underlying23 Try.underlying5 Try.underlying9 (Kd.R_reads' O_g.out).2.2
 have hcv2:=Kd.C_string (P:=Try.prog) (A:=A0) (c:=c0) Try.underlying23 Try.underlying5 Try.underlying9 (Kd.C_below HR0.out HB.out)
 have sq : ((strOfNums l0).toList == (strOfNums l0).toList) = true:=beq_self_eq_true _
 go_wp2
 go_ret
 exact ⟨rfl,HB.out⟩

end Go.Proofs.Ytndfddejdfnleaa.P
