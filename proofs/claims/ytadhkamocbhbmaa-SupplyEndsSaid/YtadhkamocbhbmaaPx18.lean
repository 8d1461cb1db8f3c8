-- Printed for this claim by xprint.py of this session: contracts of this session's own stand in for what the print does not take
import Derived.Test.YtadhkamocbhbmaaPx0
import Derived.Test.YtadhkamocbhbmaaPx4
import Derived.Test.YtadhkamocbhbmaaPx6
import Derived.Test.YtadhkamocbhbmaaPx7
import Derived.Test.YtadhkamocbhbmaaPx10
import Derived.Test.YtadhkamocbhbmaaPx13
import Derived.Test.YtadhkamocbhbmaaPx15
import Derived.Test.YtadhkamocbhbmaaPx16
import Derived.Test.YtadhkamocbhbmaaPx17
namespace Go.Proofs.Ytadhkamocbhbmaa.P
open Go.RowKit Go.Proofs.YtadhkamocbhbmaaW.PrintWords Go.Proofs.YtadhkamocbhbmaaW.PrintLast Go.Proofs.YtadhkamocbhbmaaW.PrintMore
attribute [local go_sem] max2_int min2_int max_two min_two max_three min_three max_four min_four   -- for this text's walks alone
set_option linter.unusedVariables false
set_option linter.unusedSimpArgs false

/-! ### wigwaglaw18_SupplyEnds: function 7 -/
section
variable {α : Type} {d : Kd α} {e t base g k : Nat} {ok : Nat → Prop} {w W W1 : World} {v a0 a1 a2 a3 a4 a5 a6 : Value} {xs : List α} {cs : Array Value}
theorem ends_size7 (hw : set7 W g a0 a1 a2 a3 a4 a5 a6 = W1) : W.heap.size = W1.heap.size:=by rw [← hw];simp [set7,World.setCell]
theorem ends_size3 (hw : set3 W g a0 a1 a2 = W1) : W.heap.size = W1.heap.size:=by rw [← hw];simp [set3,World.setCell]
theorem ends_V3o (hw : set3 W g a0 a1 a2 = W1) (hok : ∀ k,ok k → k ≠ g) (h : Kd.V d e W base ok v xs) : Kd.V d e W1 base ok v xs:=by
 rw [← hw]
 exact Kd.V_far (p:=⟨g,2,none⟩) (Kd.V_far (p:=⟨g,1,none⟩) (Kd.V_far (p:=⟨g,0,none⟩) h hok a0) hok a1) hok a2
theorem ends_R3o (hw : set3 W g a0 a1 a2 = W1) (hok : ∀ k,ok k → k ≠ g) (h : Kd.R d e W base ok v xs) : Kd.R d e W1 base ok v xs:=by
 rw [← hw]
 exact Kd.R_far (p:=⟨g,2,none⟩) (Kd.R_far (p:=⟨g,1,none⟩) (Kd.R_far (p:=⟨g,0,none⟩) h hok a0) hok a1) hok a2
theorem ends_V7o (hw : set7 W g a0 a1 a2 a3 a4 a5 a6 = W1) (hok : ∀ k,ok k → k ≠ g) (h : Kd.V d e W base ok v xs) : Kd.V d e W1 base ok v xs:=by
 rw [← hw]
 exact Kd.V_far (p:=⟨g,6,none⟩) (Kd.V_far (p:=⟨g,5,none⟩) (Kd.V_far (p:=⟨g,4,none⟩) (Kd.V_far (p:=⟨g,3,none⟩) (Kd.V_far (p:=⟨g,2,none⟩) (Kd.V_far (p:=⟨g,1,none⟩) (Kd.V_far (p:=⟨g,0,none⟩) h hok a0) hok a1) hok a2) hok a3) hok a4) hok a5) hok a6
theorem ends_R7o (hw : set7 W g a0 a1 a2 a3 a4 a5 a6 = W1) (hok : ∀ k,ok k → k ≠ g) (h : Kd.R d e W base ok v xs) : Kd.R d e W1 base ok v xs:=by
 rw [← hw]
 exact Kd.R_far (p:=⟨g,6,none⟩) (Kd.R_far (p:=⟨g,5,none⟩) (Kd.R_far (p:=⟨g,4,none⟩) (Kd.R_far (p:=⟨g,3,none⟩) (Kd.R_far (p:=⟨g,2,none⟩) (Kd.R_far (p:=⟨g,1,none⟩) (Kd.R_far (p:=⟨g,0,none⟩) h hok a0) hok a1) hok a2) hok a3) hok a4) hok a5) hok a6
end
/-- A chunk: from a state with its base,what is told next. -/
def ends_tell (size : Int) (b : Int) (d : List Int) (t : List S37) (ft : Bool) : Option (Int × Int × List S37 × List Int × Bool) :=
 if t.length = 0 then
  (if ft = true then (span_Cut.f t (b + (d.length : Int)) (b + (d.length : Int))).bind fun t2 => some (b + (d.length : Int),b + (d.length : Int),t2,[],true) else none)
 else if (rd_T37 t 0).f0 < mn (rd_T37 t 0).f1 1048576 ∧ b ≤ (rd_T37 t 0).f0 ∧ (rd_T37 t 0).f0 ≤ mn (mn (rd_T37 t 0).f1 1048576) (IntKind.u64.wrap ((rd_T37 t 0).f0 + IntKind.u64.wrap size)) ∧ mn (mn (rd_T37 t 0).f1 1048576) (IntKind.u64.wrap ((rd_T37 t 0).f0 + IntKind.u64.wrap size)) ≤ b + (d.length : Int) then
  (span_Cut.f t (rd_T37 t 0).f0 (mn (mn (rd_T37 t 0).f1 1048576) (IntKind.u64.wrap ((rd_T37 t 0).f0 + IntKind.u64.wrap size)))).bind fun t2 =>
   some ((rd_T37 t 0).f0,mn (mn (rd_T37 t 0).f1 1048576) (IntKind.u64.wrap ((rd_T37 t 0).f0 + IntKind.u64.wrap size)),t2,(d.take (mn (mn (rd_T37 t 0).f1 1048576) (IntKind.u64.wrap ((rd_T37 t 0).f0 + IntKind.u64.wrap size)) - b).toNat).drop ((rd_T37 t 0).f0 - b).toNat,(ft && (mn (mn (rd_T37 t 0).f1 1048576) (IntKind.u64.wrap ((rd_T37 t 0).f0 + IntKind.u64.wrap size)) == b + (d.length : Int))))
 else none
/-- So many places from off on are marked,each once. -/
def ends_mark (off : Int) : Nat → Nat → List Bool → Option (List Bool)
 | 0,_,g => some g
 | n + 1,j,g => if 0 ≤ off + (j : Int) ∧ off + (j : Int) < (g.length : Int) ∧ g.getD (off + (j : Int)).toNat true = false then ends_mark off n (j + 1) (g.set (off + (j : Int)).toNat true) else none
/-- The rounds: what stands at the end (base,data,todo,end's two flags),the marks,and whether the end was told. -/
def ends_go (k : Nat) (size : Int) (ls : List Bool) : Nat → Nat → Int → List Int → List S37 → Bool → Bool → List Bool → Bool → Option (Int × List Int × List S37 × Bool × Bool × List Bool × Bool)
 | 0,_,b,d,t,ft,fc,g,fin => some (b,d,t,ft,fc,g,fin)
 | n + 1,i,b,d,t,ft,fc,g,fin => if d.length < 1000000 ∧ t.length < 1000000 ∧ 0 ≤ b ∧ b ≤ 1000000 then if t.length = 0 ∧ ft = false then some (b,d,t,ft,fc,g,fin) else if fin = true then none else
  (ends_tell size b d t ft).bind fun x =>
   if ls.getD i false = true then
    (supply_Lost.f k b d x.2.2.1 [] true (ft && !x.2.2.2.2) fc x.1 x.2.2.2.1 x.2.2.2.2).bind fun y => if y.1 = b ∧ y.2.1 = d ∧ y.2.2.2.1 = [] ∧ y.2.2.2.2.1 = true ∧ y.2.2.2.2.2.2 = fc then ends_go k size ls n (i + 1) b d y.2.2.1 y.2.2.2.2.2.1 fc g fin else none
   else
    (supply_Came.f k b d x.2.2.1 [] true (ft && !x.2.2.2.2) fc x.1 x.2.2.2.1 x.2.2.2.2).bind fun y => if y.2.2.2.1 = [] ∧ y.2.2.2.2.1 = true then (ends_mark x.1 x.2.2.2.1.length 0 g).bind fun g2 => ends_go k size ls n (i + 1) y.1 y.2.1 y.2.2.1 y.2.2.2.2.2.1 y.2.2.2.2.2.2 g2 (fin || x.2.2.2.2) else none
  else none
/-- The law: a stream that is sent till nothing is left. -/
def wigwaglaw18_SupplyEnds.f (k : Nat) (l0 : List Int) (a1 : Int) (l2 : List Bool) : Option Bool :=
 if (l0.length : Int) > 300 then some true else if a1 < 1 then some true else
 (span_Add.f k [] 0 (l0.length : Int)).bind fun t0 => (ends_go k a1 l2 1000 0 0 l0 t0 true false (List.replicate l0.length false) false).bind fun y =>
  if y.2.2.2.2.2.1.all (fun x => x) = true then (if (y.2.2.2.2.2.2 = true ∧ y.2.2.2.2.1 = true ∧ y.2.1 = []) ∨ l2.length > 600 then some true else none) else if l2.length > 600 then some true else none
theorem ends_tell_off {size b off tz : Int} {d m : List Int} {t t2 : List S37} {ft cf : Bool} (h : ends_tell size b d t ft = some (off,tz,t2,m,cf)) (hb : 0 ≤ b) : 0 ≤ off ∧ m.length ≤ d.length:=by
 unfold ends_tell at h
 split at h
 ·split at h
  ·obtain ⟨x,_,h⟩:=Option.bind_eq_some_iff.mp h
   simp only [Option.some.injEq,Prod.mk.injEq] at h
   obtain ⟨rfl,rfl,rfl,rfl,rfl⟩:=h
   exact ⟨by omega,by simp⟩
  ·cases h
 ·split at h
  case isFalse => cases h
  case isTrue c7 =>
   obtain ⟨x,_,h⟩:=Option.bind_eq_some_iff.mp h
   simp only [Option.some.injEq,Prod.mk.injEq] at h
   obtain ⟨rfl,rfl,rfl,rfl,rfl⟩:=h
   exact ⟨by omega,by rw [List.length_drop,List.length_take];omega⟩
theorem ends_info : (Try.prog.info? 4).map (fun i => (i.zero,i.size,i.bytes)) = some (some (.bool false),1,1):=by kernel_rfl
theorem ends_write {p : List Int} {t1 : List S37} {k : Nat} (hT : span_Add.f k [] 0 (p.length : Int) = some t1) (h1 : p.length ≤ 300) : supply_Write.f k 0 [] [] [] false false false p = some (0,p,t1,[],false,false,false,0):=by
 unfold supply_Write.f
 rw [if_pos ⟨by simp,by simp,by simp,by decide,rfl,by simp;omega⟩]
 simp only [List.length_nil,Int.zero_add,Int.natCast_zero,List.nil_append,hT,Option.bind_some]
theorem ends_next (b : Int) (A1 : Option Addr) (c1 : Nat) (d : List Int) (A2 : Option Addr) (c2 : Nat) (t : List S37) (A3 : Option Addr) (c3 : Nat) (ft fc : Bool) (a1 off tz : Int) (t2 : List S37) (m : List Int) (cf : Bool) (w : World)
  (hr1 : Kd.C (Kd.int .u8) w A1 d.length d) (hc1 : d.length ≤ c1) (hr2 : Kd.C k37 w A2 t.length t) (hc2 : t.length ≤ c2) (hr3 : Kd.C k37 w A3 ([] : List S37).length []) (hc3 : ([] : List S37).length ≤ c3) (hL : d.length < 1000000 ∧ t.length < 1000000 ∧ 0 ≤ b ∧ b ≤ 1000000) (ha : 0 < a1) (h : ends_tell a1 b d t ft = some (off,tz,t2,m,cf)) :
  Calls Try.prog 10 #[.agg #[.int .u64 b,.slice A1 d.length c1,.slice A2 t.length c2,.slice A3 ([] : List S37).length c3,.bool true,.bool ft,.bool fc],.int .i64 a1,.int .u64 1048576] w fun e w' => ∃ v1_ v2_ v3_ v8_ : Value,e = .returned (.tuple #[.agg #[.int .u64 b,v1_,v2_,v3_,.bool true,.bool (ft && !cf),.bool fc],.agg #[.int .u64 off,v8_,.bool cf],.bool true]) ∧ Kd.R (Kd.int .u8) 5 w' w.heap.size (fun k_ => some k_ ≠ (v8_ : Value).ownBlock) v1_ d ∧ Kd.R k37 37 w' w.heap.size (fun k_ => some k_ ≠ (v8_ : Value).ownBlock) v2_ t2 ∧ Kd.R k37 37 w' w.heap.size (fun k_ => some k_ ≠ (v8_ : Value).ownBlock) v3_ [] ∧ Kd.R (Kd.int .u8) 5 w' w.heap.size (fun _ => True) v8_ m ∧ Below w.heap.size w w':=by
 have hL2 : d.length < 1000000000 ∧ t.length < 1000000000 ∧ ([] : List S37).length < 1000000000 ∧ 0 ≤ b ∧ b + (d.length : Int) ≤ 4611686018427387904:=⟨by omega,by omega,by simp,hL.2.2.1,by omega⟩
 unfold ends_tell at h
 by_cases c : t.length = 0
 ·rw [if_pos c] at h
  by_cases cq : ft = true
  ·rw [if_pos cq] at h
   subst cq
   obtain ⟨x,hC,h⟩:=Option.bind_eq_some_iff.mp h
   simp only [Option.some.injEq,Prod.mk.injEq] at h
   obtain ⟨rfl,rfl,rfl,rfl,rfl⟩:=h
   exact supply_Next.end b A1 c1 d A2 c2 t A3 c3 [] true true fc a1 1048576 _ _ d.length d.length true x [] w hr1 hc1 hr2 hc2 hr3 hc3 hL2 rfl c rfl rfl (by simp) hC (by omega) (by omega) (Nat.le_refl _) (Nat.le_refl _) (by simp)
  ·rw [if_neg cq] at h
   cases h
 ·rw [if_neg c] at h
  split at h
  case isFalse => cases h
  case isTrue c7 =>
   obtain ⟨x,hC,h⟩:=Option.bind_eq_some_iff.mp h
   simp only [Option.some.injEq,Prod.mk.injEq] at h
   obtain ⟨rfl,rfl,rfl,rfl,rfl⟩:=h
   exact supply_Next.part_ b A1 c1 d A2 c2 t A3 c3 [] true ft fc a1 1048576 _ _ ((rd_T37 t 0).f0 - b).toNat (mn (mn (rd_T37 t 0).f1 1048576) (IntKind.u64.wrap ((rd_T37 t 0).f0 + IntKind.u64.wrap a1)) - b).toNat _ x _ _ _ w hr1 hc1 hr2 hc2 hr3 hc3 hL2 (by omega) ha rfl rfl c7.1 rfl rfl rfl hC (by omega) (by omega) (by omega) (by omega) rfl
set_option maxHeartbeats 8000000 in
set_option maxRecDepth 100000 in
theorem wigwaglaw18_SupplyEnds.calls (k : Nat) (A0 : Option Addr) (c0 : Nat) (l0 : List Int) (a1 : Int) (A2 : Option Addr) (c2 : Nat) (l2 : List Bool) (r : Bool) (w : World) (hr0 : Kd.C (Kd.int .u8) w A0 l0.length l0) (hc0 : l0.length ≤ c0) (hr2 : Kd.C Kd.bool w A2 l2.length l2) (hc2 : l2.length ≤ c2) (h : wigwaglaw18_SupplyEnds.f k l0 a1 l2 = some r) :
  Calls Try.prog 7 #[.slice A0 l0.length c0,.int .i64 a1,.slice A2 l2.length c2] w fun e w' => e = .returned (.bool r) ∧ Below w.heap.size w w':=by
 have HR0:=Aside0.mk hr0
 have HC0:=Aside0.mk hc0
 have HR2:=Aside0.mk hr2
 have HB:=Aside0.mk (Below.refl w.heap.size w)
 clear hr0 hc0 hr2 hc2
 unfold wigwaglaw18_SupplyEnds.f at h
 by_cases c1 : (l0.length : Int) > 300
 case pos =>
  rw [if_pos c1] at h
  obtain rfl:=Option.some.inj h
  have k0 : decide ((l0.length : Int) > 300) = true:=decide_eq_true c1
  have k1 : decide ((300 : Int) < (l0.length : Int)) = true:=decide_eq_true c1
  have k2 : decide (300 < l0.length) = true:=decide_eq_true (by omega)
  clear c1 h
  go_enter Try.func7,Try.ntmps7
  go_wp2_with (go_at_call 8;refine (wigwaglaw18_awake.calls true _ rfl).mono ?_;rintro e_ w1 ⟨rfl,hb⟩;have HB2:=Aside0.mk (below_step HB.out hb);clear HB hb;have HB:=HB2;clear HB2)
  go_ret
  exact ⟨rfl,HB.out⟩
 rw [if_neg c1] at h
 have k0 : decide ((l0.length : Int) > 300) = false:=decide_eq_false c1
 have k1 : decide ((300 : Int) < (l0.length : Int)) = false:=decide_eq_false c1
 have k2 : decide (300 < l0.length) = false:=decide_eq_false (by omega)
 by_cases c2 : a1 < 1
 case pos =>
  rw [if_pos c2] at h
  obtain rfl:=Option.some.inj h
  have k3 : decide (a1 < 1) = true:=decide_eq_true c2
  clear c1 c2 h
  go_enter Try.func7,Try.ntmps7
  go_wp2_with (go_at_call 8;refine (wigwaglaw18_awake.calls true _ rfl).mono ?_;rintro e_ w1 ⟨rfl,hb⟩;have HB2:=Aside0.mk (below_step HB.out hb);clear HB hb;have HB:=HB2;clear HB2)
  go_ret
  exact ⟨rfl,HB.out⟩
 rw [if_neg c2] at h
 have k3 : decide (a1 < 1) = false:=decide_eq_false c2
 have HN:=Aside0.mk (show l0.length ≤ 300 by omega)
 have HA1:=Aside0.mk (show 0 < a1 by omega)
 clear c1 c2
 replace h:=Option.bind_eq_some_iff.mp h
 obtain ⟨t0,P1,h⟩:=h
 replace h:=Option.bind_eq_some_iff.mp h
 obtain ⟨⟨b9,d9,t9,ft9,fc9,g9,fin9⟩,P2,h⟩:=h
 dsimp only at h
 have h9 : r = true ∧ (g9.all (fun x => x) = true → (fin9 = true ∧ fc9 = true ∧ d9 = []) ∨ l2.length > 600) ∧ (¬ g9.all (fun x => x) = true → l2.length > 600):=by
  by_cases q1 : g9.all (fun x => x) = true
  ·rw [if_pos q1] at h
   by_cases q2 : (fin9 = true ∧ fc9 = true ∧ d9 = []) ∨ l2.length > 600
   ·rw [if_pos q2] at h
    exact ⟨(Option.some.inj h).symm,fun _ => q2,fun n_ => absurd q1 n_⟩
   ·rw [if_neg q2] at h
    cases h
  ·rw [if_neg q1] at h
   by_cases q2 : l2.length > 600
   ·rw [if_pos q2] at h
    exact ⟨(Option.some.inj h).symm,fun n_ => absurd n_ q1,fun _ => q2⟩
   ·rw [if_neg q2] at h
    cases h
 obtain ⟨rfl,h9⟩:=h9
 have H9:=Aside0.mk h9
 have HT0 : Aside0 (t0.length < 1000000):=⟨by
  have hq:=P2
  rw [ends_go] at hq
  by_cases c5 : l0.length < 1000000 ∧ t0.length < 1000000 ∧ (0 : Int) ≤ 0 ∧ (0 : Int) ≤ 1000000
  ·exact c5.2.1
  ·rw [if_neg c5] at hq
   cases hq⟩
 have PW:=Aside0.mk (ends_write P1 HN.out)
 have PF:=Aside0.mk (show supply_Finish.f 0 l0 t0 [] false false false = some (0,l0,t0,[],true,true,false) by unfold supply_Finish.f;rw [if_pos ⟨by have h_:=HN.out;omega,by have h_:=HT0.out;omega,by simp⟩];rfl)
 replace P2:=Aside0.mk P2
 clear h h9 P1
 go_enter Try.func7,Try.ntmps7
 go_upto_region 4 with (go_at_call 8;refine (wigwaglaw18_awake.calls true _ rfl).mono ?_;rintro e_ w1 ⟨rfl,hb⟩;have HB2:=Aside0.mk (below_step HB.out hb);clear HB hb;have HB:=HB2;clear HB2)
 have HCH : Aside0 (w.heap.size ≤ w.heap.size):=⟨Nat.le_refl _⟩
 have HS : Aside0 (w.heap.size ≤ w1.heap.size):=⟨HB.out.size⟩
 go_upto_region 5 with (first
  | ((with_reducible refine gate_callee (f:=9) rfl ?_);refine goesL_ (some 31) rfl rfl Try.func9 (by kernel_rfl) rfl #[.agg #[.int .u64 0,.slice none 0 0,.slice none 0 0,.slice none 0 0,.bool false,.bool false,.bool false],.slice A0 l0.length c0] rfl (by (try simp only [List.map_toArray,List.map_cons,List.map_nil]);first | done | rfl) ?_;refine (supply_Write.calls k 0 none 0 [] none 0 [] none 0 [] false false false _ _ l0 _ _ _ _ _ _ _ _ _ (Kd.C_nil _ _) (Nat.le_refl _) (Kd.C_nil _ _) (Nat.le_refl _) (Kd.C_nil _ _) (Nat.le_refl _) (Kd.C_below HR0.out HB.out) HC0.out PW.out).mono ?_;rintro e_ w2 ⟨u1,u2,u3,rfl,ho1,ho2,ho3,hb⟩;refine ⟨_,rfl,?_⟩;obtain ⟨p1,hp1⟩ : ∃ n_ : Nat,n_ = w1.heap.size:=⟨_,rfl⟩;obtain ⟨q1,hq1⟩ : ∃ n_ : Nat,n_ = w2.heap.size:=⟨_,rfl⟩;replace HCH:=Aside0.mk (And.intro HCH.out (show w.heap.size ≤ p1 ∧ p1 ≤ q1 by have h_:=HS.out;have h2_:=hb.size;omega));have O_d_1:=Aside0.mk (Kd.R_V (base':=w1.heap.size) (Kd.R_mono (Kd.R_bound ho1) (ok':=fun k_ => p1 ≤ k_ ∧ k_ < q1) (fun k_ hk_ => ⟨by rw [hp1];exact hk_.2.1,by rw [hq1];exact hk_.2.2.1⟩)));have O_t_1:=Aside0.mk (Kd.R_V (base':=w1.heap.size) (Kd.R_mono (Kd.R_bound ho2) (ok':=fun k_ => p1 ≤ k_ ∧ k_ < q1) (fun k_ hk_ => ⟨by rw [hp1];exact hk_.2.1,by rw [hq1];exact hk_.2.2.1⟩)));have O_c_1:=Aside0.mk (Kd.R_V (base':=w1.heap.size) (Kd.R_mono (Kd.R_bound ho3) (ok':=fun k_ => p1 ≤ k_ ∧ k_ < q1) (fun k_ hk_ => ⟨by rw [hp1];exact hk_.2.1,by rw [hq1];exact hk_.2.2.1⟩)));clear ho1 ho2 ho3;have n1_:=Aside0.mk (below_step HB.out hb);have n2_:=Aside0.mk ((Nat.le_trans (show _ ≤ _ from HS.out) hb.size : w.heap.size ≤ w2.heap.size));clear HB HS;have HB:=n1_;have HS:=n2_;clear n1_ n2_;replace HS:=Aside0.mk (show q1 ≤ w2.heap.size by rw [hq1];exact Nat.le_refl _);clear hb hp1 hq1;obtain ⟨A1,p_1,eo⟩:=Kd.V_slice O_d_1.out;subst eo;obtain ⟨B1,q_1,eo⟩:=Kd.V_slice O_t_1.out;subst eo;obtain ⟨C1,r_1,eo⟩:=Kd.V_slice O_c_1.out;subst eo)
  | ((with_reducible refine gate_dst (N:=8) rfl ?_);refine box_event ?hg (N:=8) ?hd (cs:=#[.int .u64 0,.slice none 0 0,.slice none 0 0,.slice none 0 0,.bool false,.bool false,.bool false]) (t:=27) ?hr ?_;(case hd => rfl);(case hg => rfl);(case hr => first | (go_simp;done) | (go_simp;rfl));intro g8 hg w3 hbox hb;have GE_g8:=Aside0.mk (show w.heap.size ≤ g8 by rw [hg];exact HB.out.size);replace HCH:=Aside0.mk (And.intro HCH.out (show q1 ≤ g8 by rw [hg];exact HS.out));have n3_:=Aside0.mk (below_step HB.out hb);have n4_:=Aside0.mk ((Nat.le_trans (show _ ≤ _ from HS.out) hb.size : q1 ≤ w3.heap.size));have n5_:=Aside0.mk (Kd.V_below O_d_1.out hb);have n6_:=Aside0.mk (Kd.V_below O_t_1.out hb);have n7_:=Aside0.mk (Kd.V_below O_c_1.out hb);clear HB HS O_d_1 O_t_1 O_c_1;have HB:=n3_;have HS:=n4_;have O_d_1:=n5_;have O_t_1:=n6_;have O_c_1:=n7_;clear n3_ n4_ n5_ n6_ n7_;replace HS:=Aside0.mk (show g8 < w3.heap.size from blk_lt hbox);have BK_g8:=Aside0.mk hbox;clear hbox hb hg;have hx_g8_0 : w3.cell? ⟨g8,0,none⟩ = some (.int .u64 0):=(blk_cell BK_g8.out 0).trans rfl;have hf_g8_0:=blk_frozen BK_g8.out 0;have hx_g8_1 : w3.cell? ⟨g8,1,none⟩ = some (.slice none 0 0):=(blk_cell BK_g8.out 1).trans rfl;have hf_g8_1:=blk_frozen BK_g8.out 1;have hx_g8_2 : w3.cell? ⟨g8,2,none⟩ = some (.slice none 0 0):=(blk_cell BK_g8.out 2).trans rfl;have hf_g8_2:=blk_frozen BK_g8.out 2;have hx_g8_3 : w3.cell? ⟨g8,3,none⟩ = some (.slice none 0 0):=(blk_cell BK_g8.out 3).trans rfl;have hf_g8_3:=blk_frozen BK_g8.out 3;have hx_g8_4 : w3.cell? ⟨g8,4,none⟩ = some (.bool false):=(blk_cell BK_g8.out 4).trans rfl;have hf_g8_4:=blk_frozen BK_g8.out 4;have hx_g8_5 : w3.cell? ⟨g8,5,none⟩ = some (.bool false):=(blk_cell BK_g8.out 5).trans rfl;have hf_g8_5:=blk_frozen BK_g8.out 5;have hx_g8_6 : w3.cell? ⟨g8,6,none⟩ = some (.bool false):=(blk_cell BK_g8.out 6).trans rfl;have hf_g8_6:=blk_frozen BK_g8.out 6))
 clear hx_g8_0 hf_g8_0 hx_g8_1 hf_g8_1 hx_g8_2 hf_g8_2 hx_g8_3 hf_g8_3 hx_g8_4 hf_g8_4 hx_g8_5 hf_g8_5 hx_g8_6 hf_g8_6
 obtain ⟨w4,hw8_⟩ : ∃ w_ : World,set7 w3 g8 (.int .u64 0) (.slice A1 l0.length p_1) (.slice B1 t0.length q_1) (.slice C1 0 r_1) (.bool false) (.bool false) (.bool false) = w_:=⟨_,rfl⟩
 have n9_:=Aside0.mk (blk7 hw8_ BK_g8.out)
 have n10_:=Aside0.mk (ends_V7o hw8_ (fun k_ hk_ => by have h_:=HCH.out;omega) O_d_1.out)
 have n11_:=Aside0.mk (ends_V7o hw8_ (fun k_ hk_ => by have h_:=HCH.out;omega) O_t_1.out)
 have n12_:=Aside0.mk (ends_V7o hw8_ (fun k_ hk_ => by have h_:=HCH.out;omega) O_c_1.out)
 have n13_:=Aside0.mk (below7 hw8_ GE_g8.out HB.out)
 have n14_:=Aside0.mk ((ends_size7 hw8_).symm ▸ HS.out)
 rw [set7_fold,hw8_]
 clear hw8_ BK_g8 O_d_1 O_t_1 O_c_1 HB HS
 have BK_g8:=n9_
 have O_d_1:=n10_
 have O_t_1:=n11_
 have O_c_1:=n12_
 have HB:=n13_
 have HS:=n14_
 clear n9_ n10_ n11_ n12_ n13_ n14_
 have hx_g8_0 : w4.cell? ⟨g8,0,none⟩ = some (.int .u64 0):=(blk_cell BK_g8.out 0).trans rfl
 have hf_g8_0:=blk_frozen BK_g8.out 0
 have hx_g8_1 : w4.cell? ⟨g8,1,none⟩ = some (.slice A1 l0.length p_1):=(blk_cell BK_g8.out 1).trans rfl
 have hf_g8_1:=blk_frozen BK_g8.out 1
 have hx_g8_2 : w4.cell? ⟨g8,2,none⟩ = some (.slice B1 t0.length q_1):=(blk_cell BK_g8.out 2).trans rfl
 have hf_g8_2:=blk_frozen BK_g8.out 2
 have hx_g8_3 : w4.cell? ⟨g8,3,none⟩ = some (.slice C1 0 r_1):=(blk_cell BK_g8.out 3).trans rfl
 have hf_g8_3:=blk_frozen BK_g8.out 3
 have hx_g8_4 : w4.cell? ⟨g8,4,none⟩ = some (.bool false):=(blk_cell BK_g8.out 4).trans rfl
 have hf_g8_4:=blk_frozen BK_g8.out 4
 have hx_g8_5 : w4.cell? ⟨g8,5,none⟩ = some (.bool false):=(blk_cell BK_g8.out 5).trans rfl
 have hf_g8_5:=blk_frozen BK_g8.out 5
 have hx_g8_6 : w4.cell? ⟨g8,6,none⟩ = some (.bool false):=(blk_cell BK_g8.out 6).trans rfl
 have hf_g8_6:=blk_frozen BK_g8.out 6
 go_upto_region 6 with (first
  | ((with_reducible refine gate_callee (f:=14) rfl ?_);refine goesL_ (some 35) rfl rfl Try.func14 (by kernel_rfl) rfl #[.agg #[.int .u64 0,.slice A1 l0.length p_1,.slice B1 t0.length q_1,.slice C1 0 r_1,.bool false,.bool false,.bool false]] rfl (by (try simp only [List.map_toArray,List.map_cons,List.map_nil]);first | done | rfl) ?_;refine (supply_Finish.calls 0 _ _ l0 _ _ t0 _ _ [] false false false _ _ _ _ _ _ _ _ (Kd.V_reads' O_d_1.out).2.2 (Kd.V_reads' O_d_1.out).2.1 (Kd.V_reads' O_t_1.out).2.2 (Kd.V_reads' O_t_1.out).2.1 (Kd.V_reads' O_c_1.out).2.2 (Kd.V_reads' O_c_1.out).2.1 PF.out).mono ?_;rintro e_ w5 ⟨u1,u2,u3,rfl,ho1,ho2,ho3,hb⟩;refine ⟨_,rfl,?_⟩;obtain ⟨pf,hpf⟩ : ∃ n_ : Nat,n_ = w4.heap.size:=⟨_,rfl⟩;obtain ⟨qf,hqf⟩ : ∃ n_ : Nat,n_ = w5.heap.size:=⟨_,rfl⟩;replace HCH:=Aside0.mk (And.intro HCH.out (show g8 < pf ∧ pf ≤ qf by have h_:=HS.out;have h2_:=hb.size;omega));have O_d_f:=Aside0.mk (Kd.R_V (base':=w4.heap.size) (Kd.R_mono (Kd.R_bound ho1) (ok':=fun k_ => pf ≤ k_ ∧ k_ < qf) (fun k_ hk_ => ⟨by rw [hpf];exact hk_.2.1,by rw [hqf];exact hk_.2.2.1⟩)));have O_t_f:=Aside0.mk (Kd.R_V (base':=w4.heap.size) (Kd.R_mono (Kd.R_bound ho2) (ok':=fun k_ => pf ≤ k_ ∧ k_ < qf) (fun k_ hk_ => ⟨by rw [hpf];exact hk_.2.1,by rw [hqf];exact hk_.2.2.1⟩)));have O_c_f:=Aside0.mk (Kd.R_V (base':=w4.heap.size) (Kd.R_mono (Kd.R_bound ho3) (ok':=fun k_ => pf ≤ k_ ∧ k_ < qf) (fun k_ hk_ => ⟨by rw [hpf];exact hk_.2.1,by rw [hqf];exact hk_.2.2.1⟩)));clear ho1 ho2 ho3;clear hx_g8_0 hf_g8_0 hx_g8_1 hf_g8_1 hx_g8_2 hf_g8_2 hx_g8_3 hf_g8_3 hx_g8_4 hf_g8_4 hx_g8_5 hf_g8_5 hx_g8_6 hf_g8_6;have n15_:=Aside0.mk (below_step HB.out hb);have n16_:=Aside0.mk ((Nat.lt_of_lt_of_le (show _ < _ from HS.out) hb.size : g8 < w5.heap.size));have n17_:=Aside0.mk (blk_below BK_g8.out hb);have n18_:=Aside0.mk (Kd.V_below O_d_1.out hb);have n19_:=Aside0.mk (Kd.V_below O_t_1.out hb);have n20_:=Aside0.mk (Kd.V_below O_c_1.out hb);clear HB HS BK_g8 O_d_1 O_t_1 O_c_1;have HB:=n15_;have HS:=n16_;have BK_g8:=n17_;have O_d_1:=n18_;have O_t_1:=n19_;have O_c_1:=n20_;clear n15_ n16_ n17_ n18_ n19_ n20_;replace HS:=Aside0.mk (show qf ≤ w5.heap.size by rw [hqf];exact Nat.le_refl _);clear hb hpf hqf;obtain ⟨Af,p_f,eo⟩:=Kd.V_slice O_d_f.out;subst eo;obtain ⟨Bf,q_f,eo⟩:=Kd.V_slice O_t_f.out;subst eo;obtain ⟨Cf,r_f,eo⟩:=Kd.V_slice O_c_f.out;subst eo;clear O_d_1 O_t_1 O_c_1;have hx_g8_0 : w5.cell? ⟨g8,0,none⟩ = some (.int .u64 0):=(blk_cell BK_g8.out 0).trans rfl;have hf_g8_0:=blk_frozen BK_g8.out 0;have hx_g8_1 : w5.cell? ⟨g8,1,none⟩ = some (.slice A1 l0.length p_1):=(blk_cell BK_g8.out 1).trans rfl;have hf_g8_1:=blk_frozen BK_g8.out 1;have hx_g8_2 : w5.cell? ⟨g8,2,none⟩ = some (.slice B1 t0.length q_1):=(blk_cell BK_g8.out 2).trans rfl;have hf_g8_2:=blk_frozen BK_g8.out 2;have hx_g8_3 : w5.cell? ⟨g8,3,none⟩ = some (.slice C1 0 r_1):=(blk_cell BK_g8.out 3).trans rfl;have hf_g8_3:=blk_frozen BK_g8.out 3;have hx_g8_4 : w5.cell? ⟨g8,4,none⟩ = some (.bool false):=(blk_cell BK_g8.out 4).trans rfl;have hf_g8_4:=blk_frozen BK_g8.out 4;have hx_g8_5 : w5.cell? ⟨g8,5,none⟩ = some (.bool false):=(blk_cell BK_g8.out 5).trans rfl;have hf_g8_5:=blk_frozen BK_g8.out 5;have hx_g8_6 : w5.cell? ⟨g8,6,none⟩ = some (.bool false):=(blk_cell BK_g8.out 6).trans rfl;have hf_g8_6:=blk_frozen BK_g8.out 6))
 clear hx_g8_0 hf_g8_0 hx_g8_1 hf_g8_1 hx_g8_2 hf_g8_2 hx_g8_3 hf_g8_3 hx_g8_4 hf_g8_4 hx_g8_5 hf_g8_5 hx_g8_6 hf_g8_6
 obtain ⟨w6,hw21_⟩ : ∃ w_ : World,set7 w5 g8 (.int .u64 0) (.slice Af l0.length p_f) (.slice Bf t0.length q_f) (.slice Cf 0 r_f) (.bool true) (.bool true) (.bool false) = w_:=⟨_,rfl⟩
 have n22_:=Aside0.mk (blk7 hw21_ BK_g8.out)
 have n23_:=Aside0.mk (ends_V7o hw21_ (fun k_ hk_ => by have h_:=HCH.out;omega) O_d_f.out)
 have n24_:=Aside0.mk (ends_V7o hw21_ (fun k_ hk_ => by have h_:=HCH.out;omega) O_t_f.out)
 have n25_:=Aside0.mk (ends_V7o hw21_ (fun k_ hk_ => by have h_:=HCH.out;omega) O_c_f.out)
 have n26_:=Aside0.mk (below7 hw21_ GE_g8.out HB.out)
 have n27_:=Aside0.mk ((ends_size7 hw21_).symm ▸ HS.out)
 rw [set7_fold,hw21_]
 clear hw21_ BK_g8 O_d_f O_t_f O_c_f HB HS
 have BK_g8:=n22_
 have O_d_f:=n23_
 have O_t_f:=n24_
 have O_c_f:=n25_
 have HB:=n26_
 have HS:=n27_
 clear n22_ n23_ n24_ n25_ n26_ n27_
 have hx_g8_0 : w6.cell? ⟨g8,0,none⟩ = some (.int .u64 0):=(blk_cell BK_g8.out 0).trans rfl
 have hf_g8_0:=blk_frozen BK_g8.out 0
 have hx_g8_1 : w6.cell? ⟨g8,1,none⟩ = some (.slice Af l0.length p_f):=(blk_cell BK_g8.out 1).trans rfl
 have hf_g8_1:=blk_frozen BK_g8.out 1
 have hx_g8_2 : w6.cell? ⟨g8,2,none⟩ = some (.slice Bf t0.length q_f):=(blk_cell BK_g8.out 2).trans rfl
 have hf_g8_2:=blk_frozen BK_g8.out 2
 have hx_g8_3 : w6.cell? ⟨g8,3,none⟩ = some (.slice Cf 0 r_f):=(blk_cell BK_g8.out 3).trans rfl
 have hf_g8_3:=blk_frozen BK_g8.out 3
 have hx_g8_4 : w6.cell? ⟨g8,4,none⟩ = some (.bool true):=(blk_cell BK_g8.out 4).trans rfl
 have hf_g8_4:=blk_frozen BK_g8.out 4
 have hx_g8_5 : w6.cell? ⟨g8,5,none⟩ = some (.bool true):=(blk_cell BK_g8.out 5).trans rfl
 have hf_g8_5:=blk_frozen BK_g8.out 5
 have hx_g8_6 : w6.cell? ⟨g8,6,none⟩ = some (.bool false):=(blk_cell BK_g8.out 6).trans rfl
 have hf_g8_6:=blk_frozen BK_g8.out 6
 go_upto_region 7 with (first
  | ((with_reducible refine gate_dst (N:=38) rfl ?_);refine Kd.R_make Kd.bool _ 4 rfl (N:=38) rfl 52 _ _ rfl (l0.length : Int) rfl rfl Try.underlying52 (.bool false) 1 ends_info rfl (by decide) (by omega) false (ok:=fun _ => True) (okp:=fun _ => True) rfl (fun _ hk => hk) trivial (by omega) (by have h_:=HN.out;simp;omega) (Below.refl _ _) (Nat.le_refl _) ?_;intro v38 w7 ho hb hg_ hnew_;clear hg_ hnew_;simp only [Int.toNat_natCast] at ho;obtain ⟨pg,hpg⟩ : ∃ n_ : Nat,n_ = w6.heap.size:=⟨_,rfl⟩;obtain ⟨qg,hqg⟩ : ∃ n_ : Nat,n_ = w7.heap.size:=⟨_,rfl⟩;replace HCH:=Aside0.mk (And.intro HCH.out (show qf ≤ pg ∧ pg ≤ qg by have h_:=HS.out;have h2_:=hb.size;omega));have O_g:=Aside0.mk (Kd.R_lower (Kd.R_mono (Kd.R_bound ho) (ok':=fun k_ => pg ≤ k_ ∧ k_ < qg) (fun k_ hk_ => ⟨by rw [hpg];exact hk_.2.1,by rw [hqg];exact hk_.2.2.1⟩)) HB.out.size);clear ho;clear hx_g8_0 hf_g8_0 hx_g8_1 hf_g8_1 hx_g8_2 hf_g8_2 hx_g8_3 hf_g8_3 hx_g8_4 hf_g8_4 hx_g8_5 hf_g8_5 hx_g8_6 hf_g8_6;have n28_:=Aside0.mk (below_step HB.out hb);have n29_:=Aside0.mk ((Nat.le_trans (show _ ≤ _ from HS.out) hb.size : qf ≤ w7.heap.size));have n30_:=Aside0.mk (blk_below BK_g8.out hb);have n31_:=Aside0.mk (Kd.V_below O_d_f.out hb);have n32_:=Aside0.mk (Kd.V_below O_t_f.out hb);have n33_:=Aside0.mk (Kd.V_below O_c_f.out hb);clear HB HS BK_g8 O_d_f O_t_f O_c_f;have HB:=n28_;have HS:=n29_;have BK_g8:=n30_;have O_d_f:=n31_;have O_t_f:=n32_;have O_c_f:=n33_;clear n28_ n29_ n30_ n31_ n32_ n33_;replace HS:=Aside0.mk (show qg ≤ w7.heap.size by rw [hqg];exact Nat.le_refl _);clear hb hpg hqg;obtain ⟨Ag,cg,eo⟩:=Kd.R_slice O_g.out;rw [List.length_replicate] at eo;subst eo;have hx_g8_0 : w7.cell? ⟨g8,0,none⟩ = some (.int .u64 0):=(blk_cell BK_g8.out 0).trans rfl;have hf_g8_0:=blk_frozen BK_g8.out 0;have hx_g8_1 : w7.cell? ⟨g8,1,none⟩ = some (.slice Af l0.length p_f):=(blk_cell BK_g8.out 1).trans rfl;have hf_g8_1:=blk_frozen BK_g8.out 1;have hx_g8_2 : w7.cell? ⟨g8,2,none⟩ = some (.slice Bf t0.length q_f):=(blk_cell BK_g8.out 2).trans rfl;have hf_g8_2:=blk_frozen BK_g8.out 2;have hx_g8_3 : w7.cell? ⟨g8,3,none⟩ = some (.slice Cf 0 r_f):=(blk_cell BK_g8.out 3).trans rfl;have hf_g8_3:=blk_frozen BK_g8.out 3;have hx_g8_4 : w7.cell? ⟨g8,4,none⟩ = some (.bool true):=(blk_cell BK_g8.out 4).trans rfl;have hf_g8_4:=blk_frozen BK_g8.out 4;have hx_g8_5 : w7.cell? ⟨g8,5,none⟩ = some (.bool true):=(blk_cell BK_g8.out 5).trans rfl;have hf_g8_5:=blk_frozen BK_g8.out 5;have hx_g8_6 : w7.cell? ⟨g8,6,none⟩ = some (.bool false):=(blk_cell BK_g8.out 6).trans rfl;have hf_g8_6:=blk_frozen BK_g8.out 6))
 clear hx_g8_0 hf_g8_0 hx_g8_1 hf_g8_1 hx_g8_2 hf_g8_2 hx_g8_3 hf_g8_3 hx_g8_4 hf_g8_4 hx_g8_5 hf_g8_5 hx_g8_6 hf_g8_6
 go_upto_block 0 with fail
 go_wp2_with fail
 go_loopg [11,12] 1000 (fun kq v11 v12 w' => ∃ (i b : Int) (d : List Int) (t : List S37) (ft fc fin : Bool) (g : List Bool) (vd vt vc : Value),v11 = .bool fin ∧ v12 = .int .i64 i ∧ Aside0 (0 ≤ i ∧ i + kq = 1000 ∧ g.length = l0.length) ∧ Aside0 (ends_go k a1 l2 kq i.toNat b d t ft fc g fin = some (b9,d9,t9,ft9,fc9,g9,fin9)) ∧ Aside0 (Kd.V (Kd.int .u8) 5 w' w.heap.size (fun k_ => k_ ≠ g8 ∧ (k_ < pg ∨ qg ≤ k_)) (vd) (d)) ∧ Aside0 (Kd.V k37 37 w' w.heap.size (fun k_ => k_ ≠ g8 ∧ (k_ < pg ∨ qg ≤ k_)) (vt) (t)) ∧ Aside0 (Kd.V k37 37 w' w.heap.size (fun k_ => k_ ≠ g8 ∧ (k_ < pg ∨ qg ≤ k_)) (vc) ([])) ∧ Aside0 (Kd.R Kd.bool 4 w' w.heap.size (fun k_ => pg ≤ k_ ∧ k_ < qg) (.slice Ag l0.length cg) (g)) ∧ Aside0 (w'.heap[g8]? = some (.cells #[.int .u64 b,vd,vt,vc,.bool true,.bool ft,.bool fc] 27 (0,0))) ∧ Aside0 (qg ≤ w'.heap.size) ∧ Aside0 (Below w.heap.size w w'))
 case atStart => exact ⟨0,0,l0,t0,true,false,false,List.replicate l0.length false,_,_,_,rfl,rfl,⟨by simp⟩,P2,⟨Kd.V_mono O_d_f.out (fun k_ hk_ => by have h_:=HCH.out;omega)⟩,⟨Kd.V_mono O_t_f.out (fun k_ hk_ => by have h_:=HCH.out;omega)⟩,⟨Kd.V_mono O_c_f.out (fun k_ hk_ => by have h_:=HCH.out;omega)⟩,O_g,BK_g8,HS,HB⟩
 case round =>
 clear O_d_f O_t_f O_c_f O_g BK_g8 HS HB P2 PW PF
 obtain ⟨i,b,d,t,ft,fc,fin,g,vd,vt,vc,rfl,rfl,HI,HQ,O_d,O_t,O_c,O_g,BK_g8,HS,HB⟩:=hrel
 obtain ⟨pz,hpz⟩ : ∃ n_ : Nat,n_ = wr.heap.size:=⟨_,rfl⟩
 replace O_d:=Aside0.mk (Kd.V_mono (Kd.V_bound O_d.out) (ok':=(fun k_ => (k_ ≠ g8 ∧ (k_ < pg ∨ qg ≤ k_)) ∧ k_ < pz)) (fun k_ hk_ => ⟨hk_.1,by rw [hpz];exact hk_.2⟩))
 obtain ⟨Ax0,p_0,eo⟩:=Kd.V_slice O_d.out
 subst eo
 replace O_t:=Aside0.mk (Kd.V_mono (Kd.V_bound O_t.out) (ok':=(fun k_ => (k_ ≠ g8 ∧ (k_ < pg ∨ qg ≤ k_)) ∧ k_ < pz)) (fun k_ hk_ => ⟨hk_.1,by rw [hpz];exact hk_.2⟩))
 obtain ⟨Bx0,q_0,eo⟩:=Kd.V_slice O_t.out
 subst eo
 replace O_c:=Aside0.mk (Kd.V_mono (Kd.V_bound O_c.out) (ok':=(fun k_ => (k_ ≠ g8 ∧ (k_ < pg ∨ qg ≤ k_)) ∧ k_ < pz)) (fun k_ hk_ => ⟨hk_.1,by rw [hpz];exact hk_.2⟩))
 obtain ⟨Cx0,r_0,eo⟩:=Kd.V_slice O_c.out
 subst eo
 have hs_ : qg ≤ pz:=by rw [hpz];exact HS.out
 replace HCH:=Aside0.mk (And.intro HCH.out hs_)
 replace HS:=Aside0.mk (show pz ≤ wr.heap.size by rw [hpz];exact Nat.le_refl _)
 clear hpz hs_
 have HGL:=Aside0.mk (show g.length = l0.length from HI.out.2.2)
 cases gk with
 | zero =>
  have hq:=HQ.out
  rw [ends_go] at hq
  simp only [Option.some.injEq,Prod.mk.injEq] at hq
  obtain ⟨rfl,rfl,rfl,rfl,rfl,rfl,rfl⟩:=hq
  have kt : decide (i < 1000) = false:=decide_eq_false (by have h_:=HI.out;omega)
  clear HI HQ
  go_upto_block 4 with fail
  go_wp2_with fail
  go_loopg [18] l0.length (fun kq v18 w' => ∃ i : Int,v18 = .int .i64 i ∧ Aside0 (0 ≤ i ∧ i + kq = l0.length ∧ ∀ j : Nat,j < i.toNat → g.getD j false = true) ∧ Aside0 (Kd.V (Kd.int .u8) 5 w' w.heap.size (fun k_ => (k_ ≠ g8 ∧ (k_ < pg ∨ qg ≤ k_)) ∧ k_ < pz) (.slice Ax0 d.length p_0) (d)) ∧ Aside0 (Kd.V k37 37 w' w.heap.size (fun k_ => (k_ ≠ g8 ∧ (k_ < pg ∨ qg ≤ k_)) ∧ k_ < pz) (.slice Bx0 t.length q_0) (t)) ∧ Aside0 (Kd.V k37 37 w' w.heap.size (fun k_ => (k_ ≠ g8 ∧ (k_ < pg ∨ qg ≤ k_)) ∧ k_ < pz) (.slice Cx0 0 r_0) ([])) ∧ Aside0 (Kd.R Kd.bool 4 w' w.heap.size (fun k_ => pg ≤ k_ ∧ k_ < qg) (.slice Ag l0.length cg) (g)) ∧ Aside0 (w'.heap[g8]? = some (.cells #[.int .u64 b,.slice Ax0 d.length p_0,.slice Bx0 t.length q_0,.slice Cx0 0 r_0,.bool true,.bool ft,.bool fc] 27 (0,0))) ∧ Aside0 (Below w.heap.size w w'))
  case atStart => exact ⟨0,rfl,⟨by simp⟩,O_d,O_t,O_c,O_g,BK_g8,HB⟩
  case round =>
  clear O_d O_t O_c O_g BK_g8 HB
  obtain ⟨i4,rfl,HI4,O_d,O_t,O_c,O_g,BK_g8,HB⟩:=hrel
  by_cases ci : i4 < (l0.length : Int)
  case pos =>
   have cib : decide (i4 < (l0.length : Int)) = true:=decide_eq_true ci
   cases gk with
   | zero => exact absurd HI4.out.2.1 (by omega)
   | succ k4 =>
    have p_ : 0 ≤ i4:=HI4.out.1
    have q_ : i4 < ((l0.length : Nat) : Int):=ci
    have hgl:=HGL.out
    obtain ⟨go,co,eo,gb,gl,cl,HG_⟩:=Kd.R_form O_g.out (by omega)
    injection eo with ea_ en_ ec_
    subst ea_ ec_
    clear en_ gl cl HG_ gb hgl
    obtain ⟨hx_,hf_⟩:=Kd.R_celln false O_g.out i4 p_ q_
    obtain ⟨gv,hgv⟩ : ∃ y_ : Bool,rdOf false g i4 = y_:=⟨_,rfl⟩
    rw [hgv] at hx_
    have HGV:=Aside0.mk hgv
    have HP_:=Aside0.mk p_
    have HQ_:=Aside0.mk q_
    have hw4 : wrap64 (i4 + 1) = i4 + 1:=by have h2:=HI4.out;have h3:=HN.out;unfold wrap64;omega
    clear hgv ci
    replace p_:=eq_true p_
    replace q_:=eq_true q_
    cases gv with
    | false =>
     have h6 : l2.length > 600:=H9.out.2 (fun ha_ => by
      have h_:=HQ_.out
      have h2_:=HP_.out
      have h3_:=HGL.out
      have hm_ : g.getD i4.toNat false ∈ g:=by
       rw [List.getD_eq_getElem?_getD,List.getElem?_eq_getElem (show i4.toNat < g.length by omega)]
       exact List.getElem_mem _
      have h4_:=List.all_eq_true.mp ha_ _ hm_
      have h5_ : g.getD i4.toNat false = false:=HGV.out
      rw [h5_] at h4_
      cases h4_)
     have k6 : decide ((l2.length : Int) > 600) = true:=decide_eq_true (by omega)
     have k7 : decide ((600 : Int) < (l2.length : Int)) = true:=decide_eq_true (by omega)
     have k8 : decide (600 < l2.length) = true:=decide_eq_true h6
     clear h6
     go_wp2
     go_ret
     exact ⟨rfl,HB.out⟩
    | true =>
     go_wp2
     go_roundg k4
     case measure => omega
     case rel => exact ⟨wrap64 (i4 + 1),rfl,⟨by
      have h2:=HI4.out
      rw [hw4]
      refine ⟨by omega,by omega,fun j hj => ?_⟩
      by_cases e_ : j < i4.toNat
      ·exact h2.2.2 j e_
      ·have e2_ : j = i4.toNat:=by omega
       rw [e2_]
       exact HGV.out⟩,O_d,O_t,O_c,O_g,BK_g8,HB⟩
  case neg =>
   have cib : decide (i4 < (l0.length : Int)) = false:=decide_eq_false ci
   have hall : g.all (fun x => x) = true:=by
    rw [List.all_eq_true]
    intro x hx
    obtain ⟨j,hj,hjx⟩:=List.getElem_of_mem hx
    have h2:=HI4.out
    have h3:=HGL.out
    have h4:=h2.2.2 j (by omega)
    rw [List.getD_eq_getElem?_getD,List.getElem?_eq_getElem hj,hjx] at h4
    exact h4
   have hd:=H9.out.1 hall
   clear hall HI4 ci
   by_cases cd : fc = true ∧ d = []
   case pos =>
    obtain ⟨rfl,hd0⟩:=cd
    have HD0:=Aside0.mk hd0
    clear hd0
    cases fin with
    | true =>
     clear hd
     have hx_g8_0 : wr.cell? ⟨g8,0,none⟩ = some (.int .u64 b):=(blk_cell BK_g8.out 0).trans rfl
     have hf_g8_0:=blk_frozen BK_g8.out 0
     have hx_g8_1 : wr.cell? ⟨g8,1,none⟩ = some (.slice Ax0 d.length p_0):=(blk_cell BK_g8.out 1).trans rfl
     have hf_g8_1:=blk_frozen BK_g8.out 1
     have hx_g8_2 : wr.cell? ⟨g8,2,none⟩ = some (.slice Bx0 t.length q_0):=(blk_cell BK_g8.out 2).trans rfl
     have hf_g8_2:=blk_frozen BK_g8.out 2
     have hx_g8_3 : wr.cell? ⟨g8,3,none⟩ = some (.slice Cx0 0 r_0):=(blk_cell BK_g8.out 3).trans rfl
     have hf_g8_3:=blk_frozen BK_g8.out 3
     have hx_g8_4 : wr.cell? ⟨g8,4,none⟩ = some (.bool true):=(blk_cell BK_g8.out 4).trans rfl
     have hf_g8_4:=blk_frozen BK_g8.out 4
     have hx_g8_5 : wr.cell? ⟨g8,5,none⟩ = some (.bool ft):=(blk_cell BK_g8.out 5).trans rfl
     have hf_g8_5:=blk_frozen BK_g8.out 5
     have hx_g8_6 : wr.cell? ⟨g8,6,none⟩ = some (.bool true):=(blk_cell BK_g8.out 6).trans rfl
     have hf_g8_6:=blk_frozen BK_g8.out 6
     go_wp2_with (go_at_call 16;refine (supply_Done.calls b _ _ d _ _ t _ _ [] true ft true true _ (Kd.V_reads' O_d.out).2.2 (Kd.V_reads' O_d.out).2.1 (Kd.V_reads' O_t.out).2.2 (Kd.V_reads' O_t.out).2.1 (Kd.V_reads' O_c.out).2.2 (Kd.V_reads' O_c.out).2.1 (by unfold supply_Done.f;rw [if_pos rfl,if_pos rfl,HD0.out];rfl)).mono ?_;rintro e_ w42 ⟨rfl,hb⟩;have HB2:=Aside0.mk (below_step HB.out hb);clear HB;have HB:=HB2;clear HB2 hb)
     go_ret
     exact ⟨rfl,HB.out⟩
    | false =>
     have h6 : l2.length > 600:=hd.resolve_left (fun x => by cases x.1)
     clear hd
     have k6 : decide ((l2.length : Int) > 600) = true:=decide_eq_true (by omega)
     have k7 : decide ((600 : Int) < (l2.length : Int)) = true:=decide_eq_true (by omega)
     have k8 : decide (600 < l2.length) = true:=decide_eq_true h6
     clear h6
     go_wp2
     go_ret
     exact ⟨rfl,HB.out⟩
   case neg =>
    have h6 : l2.length > 600:=hd.resolve_left (fun x => cd x.2)
    clear hd
    have k6 : decide ((l2.length : Int) > 600) = true:=decide_eq_true (by omega)
    have k7 : decide ((600 : Int) < (l2.length : Int)) = true:=decide_eq_true (by omega)
    have k8 : decide (600 < l2.length) = true:=decide_eq_true h6
    clear h6
    have hres : supply_Done.f b d t [] true ft fc = some false:=by
     unfold supply_Done.f
     rw [if_pos rfl]
     by_cases e_ : fc = true
     ·rw [if_pos e_]
      have e2_ : ¬ d = []:=fun x => cd ⟨e_,x⟩
      cases d with
      | nil => exact absurd rfl e2_
      | cons x xs => simp;omega
     ·rw [if_neg e_]
    have HRES:=Aside0.mk hres
    clear hres cd
    cases fin with
    | true =>
     have hx_g8_0 : wr.cell? ⟨g8,0,none⟩ = some (.int .u64 b):=(blk_cell BK_g8.out 0).trans rfl
     have hf_g8_0:=blk_frozen BK_g8.out 0
     have hx_g8_1 : wr.cell? ⟨g8,1,none⟩ = some (.slice Ax0 d.length p_0):=(blk_cell BK_g8.out 1).trans rfl
     have hf_g8_1:=blk_frozen BK_g8.out 1
     have hx_g8_2 : wr.cell? ⟨g8,2,none⟩ = some (.slice Bx0 t.length q_0):=(blk_cell BK_g8.out 2).trans rfl
     have hf_g8_2:=blk_frozen BK_g8.out 2
     have hx_g8_3 : wr.cell? ⟨g8,3,none⟩ = some (.slice Cx0 0 r_0):=(blk_cell BK_g8.out 3).trans rfl
     have hf_g8_3:=blk_frozen BK_g8.out 3
     have hx_g8_4 : wr.cell? ⟨g8,4,none⟩ = some (.bool true):=(blk_cell BK_g8.out 4).trans rfl
     have hf_g8_4:=blk_frozen BK_g8.out 4
     have hx_g8_5 : wr.cell? ⟨g8,5,none⟩ = some (.bool ft):=(blk_cell BK_g8.out 5).trans rfl
     have hf_g8_5:=blk_frozen BK_g8.out 5
     have hx_g8_6 : wr.cell? ⟨g8,6,none⟩ = some (.bool fc):=(blk_cell BK_g8.out 6).trans rfl
     have hf_g8_6:=blk_frozen BK_g8.out 6
     go_wp2_with (go_at_call 16;refine (supply_Done.calls b _ _ d _ _ t _ _ [] true ft fc false _ (Kd.V_reads' O_d.out).2.2 (Kd.V_reads' O_d.out).2.1 (Kd.V_reads' O_t.out).2.2 (Kd.V_reads' O_t.out).2.1 (Kd.V_reads' O_c.out).2.2 (Kd.V_reads' O_c.out).2.1 (HRES.out)).mono ?_;rintro e_ w42 ⟨rfl,hb⟩;have HB2:=Aside0.mk (below_step HB.out hb);clear HB;have HB:=HB2;clear HB2 hb)
     go_ret
     exact ⟨rfl,HB.out⟩
    | false =>
     go_wp2
     go_ret
     exact ⟨rfl,HB.out⟩
 | succ k1 =>
  have hq:=HQ.out
  rw [ends_go] at hq
  have kt : decide (i < 1000) = true:=decide_eq_true (by have h_:=HI.out;omega)
  by_cases c5 : d.length < 1000000 ∧ t.length < 1000000 ∧ 0 ≤ b ∧ b ≤ 1000000
  case neg => rw [if_neg c5] at hq;cases hq
  rw [if_pos c5] at hq
  have HL:=Aside0.mk c5
  have hw : wrap64 (i + 1) = i + 1:=by have h2:=HI.out;unfold wrap64;omega
  have HI2:=Aside0.mk (show (wrap64 (i + 1)).toNat = i.toNat + 1 by rw [hw];have h2:=HI.out;omega)
  clear HQ c5
  by_cases c6 : t.length = 0 ∧ ft = false
  case pos =>
   rw [if_pos c6] at hq
   obtain ⟨c6,rfl⟩:=c6
   have HC6:=Aside0.mk c6
   clear c6
   simp only [Option.some.injEq,Prod.mk.injEq] at hq
   obtain ⟨rfl,rfl,rfl,rfl,rfl,rfl,rfl⟩:=hq
   have hx_g8_0 : wr.cell? ⟨g8,0,none⟩ = some (.int .u64 b):=(blk_cell BK_g8.out 0).trans rfl
   have hf_g8_0:=blk_frozen BK_g8.out 0
   have hx_g8_1 : wr.cell? ⟨g8,1,none⟩ = some (.slice Ax0 d.length p_0):=(blk_cell BK_g8.out 1).trans rfl
   have hf_g8_1:=blk_frozen BK_g8.out 1
   have hx_g8_2 : wr.cell? ⟨g8,2,none⟩ = some (.slice Bx0 t.length q_0):=(blk_cell BK_g8.out 2).trans rfl
   have hf_g8_2:=blk_frozen BK_g8.out 2
   have hx_g8_3 : wr.cell? ⟨g8,3,none⟩ = some (.slice Cx0 0 r_0):=(blk_cell BK_g8.out 3).trans rfl
   have hf_g8_3:=blk_frozen BK_g8.out 3
   have hx_g8_4 : wr.cell? ⟨g8,4,none⟩ = some (.bool true):=(blk_cell BK_g8.out 4).trans rfl
   have hf_g8_4:=blk_frozen BK_g8.out 4
   have hx_g8_5 : wr.cell? ⟨g8,5,none⟩ = some (.bool false):=(blk_cell BK_g8.out 5).trans rfl
   have hf_g8_5:=blk_frozen BK_g8.out 5
   have hx_g8_6 : wr.cell? ⟨g8,6,none⟩ = some (.bool fc):=(blk_cell BK_g8.out 6).trans rfl
   have hf_g8_6:=blk_frozen BK_g8.out 6
   go_upto_region 12 with (first
    | ((with_reducible refine gate_callee (f:=10) rfl ?_);refine goesL_ (some 46) rfl rfl Try.func10 (by kernel_rfl) rfl #[.agg #[.int .u64 b,.slice Ax0 d.length p_0,.slice Bx0 t.length q_0,.slice Cx0 0 r_0,.bool true,.bool false,.bool fc],.int .i64 a1,.int .u64 1048576] rfl (by (try simp only [List.map_toArray,List.map_cons,List.map_nil]);first | done | rfl) ?_;refine (supply_Next.none0 b _ _ d _ _ t _ _ [] true false fc a1 1048576 _ (Kd.V_reads' O_d.out).2.2 (Kd.V_reads' O_d.out).2.1 (Kd.V_reads' O_t.out).2.2 (Kd.V_reads' O_t.out).2.1 (Kd.V_reads' O_c.out).2.2 (Kd.V_reads' O_c.out).2.1 ⟨by have h_:=HL.out;omega,by have h_:=HL.out;omega,by simp,HL.out.2.2.1,by have h_:=HL.out;omega⟩ HC6.out rfl).mono ?_;rintro e_ w12 ⟨rfl,hb⟩;refine ⟨_,rfl,?_⟩;clear hx_g8_0 hf_g8_0 hx_g8_1 hf_g8_1 hx_g8_2 hf_g8_2 hx_g8_3 hf_g8_3 hx_g8_4 hf_g8_4 hx_g8_5 hf_g8_5 hx_g8_6 hf_g8_6;have n34_:=Aside0.mk (below_step HB.out hb);have n35_:=Aside0.mk ((Nat.le_trans (show _ ≤ _ from HS.out) hb.size : pz ≤ w12.heap.size));have n36_:=Aside0.mk (blk_below BK_g8.out hb);have n37_:=Aside0.mk (Kd.V_below O_d.out hb);have n38_:=Aside0.mk (Kd.V_below O_t.out hb);have n39_:=Aside0.mk (Kd.V_below O_c.out hb);have n40_:=Aside0.mk (Kd.R_below O_g.out hb);clear HB HS BK_g8 O_d O_t O_c O_g;have HB:=n34_;have HS:=n35_;have BK_g8:=n36_;have O_d:=n37_;have O_t:=n38_;have O_c:=n39_;have O_g:=n40_;clear n34_ n35_ n36_ n37_ n38_ n39_ n40_;clear hb)
    | ((with_reducible refine gate_dst (N:=13) rfl ?_);refine box_event ?hg (N:=13) ?hd (cs:=#[.int .u64 0,.slice none 0 0,.slice none 0 0,.slice none 0 0,.bool false,.bool false,.bool false]) (t:=27) ?hr ?_;(case hd => rfl);(case hg => rfl);(case hr => first | (go_simp;done) | (go_simp;rfl));intro g13 hg w13 hbox hb;have GE_g13:=Aside0.mk (show w.heap.size ≤ g13 by rw [hg];exact HB.out.size);have NB_g8_g13 : g8 ≠ g13:=(by rw [hg];exact Nat.ne_of_lt (blk_lt BK_g8.out));have NB_g13_g8:=NB_g8_g13.symm;replace HCH:=Aside0.mk (And.intro HCH.out (show pz ≤ g13 by rw [hg];exact HS.out));have n41_:=Aside0.mk (below_step HB.out hb);have n42_:=Aside0.mk ((Nat.le_trans (show _ ≤ _ from HS.out) hb.size : pz ≤ w13.heap.size));have n43_:=Aside0.mk (blk_below BK_g8.out hb);have n44_:=Aside0.mk (Kd.V_below O_d.out hb);have n45_:=Aside0.mk (Kd.V_below O_t.out hb);have n46_:=Aside0.mk (Kd.V_below O_c.out hb);have n47_:=Aside0.mk (Kd.R_below O_g.out hb);clear HB HS BK_g8 O_d O_t O_c O_g;have HB:=n41_;have HS:=n42_;have BK_g8:=n43_;have O_d:=n44_;have O_t:=n45_;have O_c:=n46_;have O_g:=n47_;clear n41_ n42_ n43_ n44_ n45_ n46_ n47_;replace HS:=Aside0.mk (show g13 < w13.heap.size from blk_lt hbox);have BK_g13:=Aside0.mk hbox;clear hbox hb hg)
    | ((with_reducible refine gate_dst (N:=14) rfl ?_);refine box_event ?hg (N:=14) ?hd (cs:=#[.int .u64 0,.slice none 0 0,.bool false]) (t:=32) ?hr ?_;(case hd => rfl);(case hg => rfl);(case hr => first | (go_simp;done) | (go_simp;rfl));intro g14 hg w14 hbox hb;have GE_g14:=Aside0.mk (show w.heap.size ≤ g14 by rw [hg];exact HB.out.size);have NB_g8_g14 : g8 ≠ g14:=(by rw [hg];exact Nat.ne_of_lt (blk_lt BK_g8.out));have NB_g14_g8:=NB_g8_g14.symm;have NB_g13_g14 : g13 ≠ g14:=(by rw [hg];exact Nat.ne_of_lt (blk_lt BK_g13.out));have NB_g14_g13:=NB_g13_g14.symm;replace HCH:=Aside0.mk (And.intro HCH.out (show g13 < g14 by rw [hg];exact HS.out));have n48_:=Aside0.mk (below_step HB.out hb);have n49_:=Aside0.mk ((Nat.lt_of_lt_of_le (show _ < _ from HS.out) hb.size : g13 < w14.heap.size));have n50_:=Aside0.mk (blk_below BK_g8.out hb);have n51_:=Aside0.mk (blk_below BK_g13.out hb);have n52_:=Aside0.mk (Kd.V_below O_d.out hb);have n53_:=Aside0.mk (Kd.V_below O_t.out hb);have n54_:=Aside0.mk (Kd.V_below O_c.out hb);have n55_:=Aside0.mk (Kd.R_below O_g.out hb);clear HB HS BK_g8 BK_g13 O_d O_t O_c O_g;have HB:=n48_;have HS:=n49_;have BK_g8:=n50_;have BK_g13:=n51_;have O_d:=n52_;have O_t:=n53_;have O_c:=n54_;have O_g:=n55_;clear n48_ n49_ n50_ n51_ n52_ n53_ n54_ n55_;replace HS:=Aside0.mk (show g14 < w14.heap.size from blk_lt hbox);have BK_g14:=Aside0.mk hbox;clear hbox hb hg;have hx_g13_0 : w14.cell? ⟨g13,0,none⟩ = some (.int .u64 0):=(blk_cell BK_g13.out 0).trans rfl;have hf_g13_0:=blk_frozen BK_g13.out 0;have hx_g13_1 : w14.cell? ⟨g13,1,none⟩ = some (.slice none 0 0):=(blk_cell BK_g13.out 1).trans rfl;have hf_g13_1:=blk_frozen BK_g13.out 1;have hx_g13_2 : w14.cell? ⟨g13,2,none⟩ = some (.slice none 0 0):=(blk_cell BK_g13.out 2).trans rfl;have hf_g13_2:=blk_frozen BK_g13.out 2;have hx_g13_3 : w14.cell? ⟨g13,3,none⟩ = some (.slice none 0 0):=(blk_cell BK_g13.out 3).trans rfl;have hf_g13_3:=blk_frozen BK_g13.out 3;have hx_g13_4 : w14.cell? ⟨g13,4,none⟩ = some (.bool false):=(blk_cell BK_g13.out 4).trans rfl;have hf_g13_4:=blk_frozen BK_g13.out 4;have hx_g13_5 : w14.cell? ⟨g13,5,none⟩ = some (.bool false):=(blk_cell BK_g13.out 5).trans rfl;have hf_g13_5:=blk_frozen BK_g13.out 5;have hx_g13_6 : w14.cell? ⟨g13,6,none⟩ = some (.bool false):=(blk_cell BK_g13.out 6).trans rfl;have hf_g13_6:=blk_frozen BK_g13.out 6;have hx_g14_0 : w14.cell? ⟨g14,0,none⟩ = some (.int .u64 0):=(blk_cell BK_g14.out 0).trans rfl;have hf_g14_0:=blk_frozen BK_g14.out 0;have hx_g14_1 : w14.cell? ⟨g14,1,none⟩ = some (.slice none 0 0):=(blk_cell BK_g14.out 1).trans rfl;have hf_g14_1:=blk_frozen BK_g14.out 1;have hx_g14_2 : w14.cell? ⟨g14,2,none⟩ = some (.bool false):=(blk_cell BK_g14.out 2).trans rfl;have hf_g14_2:=blk_frozen BK_g14.out 2))
   clear hx_g13_0 hf_g13_0 hx_g13_1 hf_g13_1 hx_g13_2 hf_g13_2 hx_g13_3 hf_g13_3 hx_g13_4 hf_g13_4 hx_g13_5 hf_g13_5 hx_g13_6 hf_g13_6 hx_g14_0 hf_g14_0 hx_g14_1 hf_g14_1 hx_g14_2 hf_g14_2
   obtain ⟨w15,hw56_⟩ : ∃ w_ : World,set7 w14 g13 (.int .u64 b) (.slice Ax0 d.length p_0) (.slice Bx0 t.length q_0) (.slice Cx0 0 r_0) (.bool true) (.bool false) (.bool fc) = w_:=⟨_,rfl⟩
   have n57_:=Aside0.mk (blk7 hw56_ BK_g13.out)
   have n58_:=Aside0.mk (far7 hw56_ NB_g8_g13 BK_g8.out)
   have n59_:=Aside0.mk (far7 hw56_ NB_g14_g13 BK_g14.out)
   have n60_:=Aside0.mk (ends_V7o hw56_ (fun k_ hk_ => by have h_:=HCH.out;omega) O_d.out)
   have n61_:=Aside0.mk (ends_V7o hw56_ (fun k_ hk_ => by have h_:=HCH.out;omega) O_t.out)
   have n62_:=Aside0.mk (ends_V7o hw56_ (fun k_ hk_ => by have h_:=HCH.out;omega) O_c.out)
   have n63_:=Aside0.mk (ends_R7o hw56_ (fun k_ hk_ => by have h_:=HCH.out;omega) O_g.out)
   have n64_:=Aside0.mk (below7 hw56_ GE_g13.out HB.out)
   have n65_:=Aside0.mk ((ends_size7 hw56_).symm ▸ HS.out)
   rw [set7_fold,hw56_]
   clear hw56_ BK_g13 BK_g8 BK_g14 O_d O_t O_c O_g HB HS
   have BK_g13:=n57_
   have BK_g8:=n58_
   have BK_g14:=n59_
   have O_d:=n60_
   have O_t:=n61_
   have O_c:=n62_
   have O_g:=n63_
   have HB:=n64_
   have HS:=n65_
   clear n57_ n58_ n59_ n60_ n61_ n62_ n63_ n64_ n65_
   obtain ⟨w16,hw66_⟩ : ∃ w_ : World,set3 w15 g14 (.int .u64 0) (.slice none 0 0) (.bool false) = w_:=⟨_,rfl⟩
   have n67_:=Aside0.mk (blk3 hw66_ BK_g14.out)
   have n68_:=Aside0.mk (far3 hw66_ NB_g8_g14 BK_g8.out)
   have n69_:=Aside0.mk (far3 hw66_ NB_g13_g14 BK_g13.out)
   have n70_:=Aside0.mk (ends_V3o hw66_ (fun k_ hk_ => by have h_:=HCH.out;omega) O_d.out)
   have n71_:=Aside0.mk (ends_V3o hw66_ (fun k_ hk_ => by have h_:=HCH.out;omega) O_t.out)
   have n72_:=Aside0.mk (ends_V3o hw66_ (fun k_ hk_ => by have h_:=HCH.out;omega) O_c.out)
   have n73_:=Aside0.mk (ends_R3o hw66_ (fun k_ hk_ => by have h_:=HCH.out;omega) O_g.out)
   have n74_:=Aside0.mk (below3 hw66_ GE_g14.out HB.out)
   have n75_:=Aside0.mk ((ends_size3 hw66_).symm ▸ HS.out)
   rw [set3_fold,hw66_]
   clear hw66_ BK_g14 BK_g8 BK_g13 O_d O_t O_c O_g HB HS
   have BK_g14:=n67_
   have BK_g8:=n68_
   have BK_g13:=n69_
   have O_d:=n70_
   have O_t:=n71_
   have O_c:=n72_
   have O_g:=n73_
   have HB:=n74_
   have HS:=n75_
   clear n67_ n68_ n69_ n70_ n71_ n72_ n73_ n74_ n75_
   have hx_g13_0 : w16.cell? ⟨g13,0,none⟩ = some (.int .u64 b):=(blk_cell BK_g13.out 0).trans rfl
   have hf_g13_0:=blk_frozen BK_g13.out 0
   have hx_g13_1 : w16.cell? ⟨g13,1,none⟩ = some (.slice Ax0 d.length p_0):=(blk_cell BK_g13.out 1).trans rfl
   have hf_g13_1:=blk_frozen BK_g13.out 1
   have hx_g13_2 : w16.cell? ⟨g13,2,none⟩ = some (.slice Bx0 t.length q_0):=(blk_cell BK_g13.out 2).trans rfl
   have hf_g13_2:=blk_frozen BK_g13.out 2
   have hx_g13_3 : w16.cell? ⟨g13,3,none⟩ = some (.slice Cx0 0 r_0):=(blk_cell BK_g13.out 3).trans rfl
   have hf_g13_3:=blk_frozen BK_g13.out 3
   have hx_g13_4 : w16.cell? ⟨g13,4,none⟩ = some (.bool true):=(blk_cell BK_g13.out 4).trans rfl
   have hf_g13_4:=blk_frozen BK_g13.out 4
   have hx_g13_5 : w16.cell? ⟨g13,5,none⟩ = some (.bool false):=(blk_cell BK_g13.out 5).trans rfl
   have hf_g13_5:=blk_frozen BK_g13.out 5
   have hx_g13_6 : w16.cell? ⟨g13,6,none⟩ = some (.bool fc):=(blk_cell BK_g13.out 6).trans rfl
   have hf_g13_6:=blk_frozen BK_g13.out 6
   have hx_g8_0 : w16.cell? ⟨g8,0,none⟩ = some (.int .u64 b):=(blk_cell BK_g8.out 0).trans rfl
   have hf_g8_0:=blk_frozen BK_g8.out 0
   have hx_g8_1 : w16.cell? ⟨g8,1,none⟩ = some (.slice Ax0 d.length p_0):=(blk_cell BK_g8.out 1).trans rfl
   have hf_g8_1:=blk_frozen BK_g8.out 1
   have hx_g8_2 : w16.cell? ⟨g8,2,none⟩ = some (.slice Bx0 t.length q_0):=(blk_cell BK_g8.out 2).trans rfl
   have hf_g8_2:=blk_frozen BK_g8.out 2
   have hx_g8_3 : w16.cell? ⟨g8,3,none⟩ = some (.slice Cx0 0 r_0):=(blk_cell BK_g8.out 3).trans rfl
   have hf_g8_3:=blk_frozen BK_g8.out 3
   have hx_g8_4 : w16.cell? ⟨g8,4,none⟩ = some (.bool true):=(blk_cell BK_g8.out 4).trans rfl
   have hf_g8_4:=blk_frozen BK_g8.out 4
   have hx_g8_5 : w16.cell? ⟨g8,5,none⟩ = some (.bool false):=(blk_cell BK_g8.out 5).trans rfl
   have hf_g8_5:=blk_frozen BK_g8.out 5
   have hx_g8_6 : w16.cell? ⟨g8,6,none⟩ = some (.bool fc):=(blk_cell BK_g8.out 6).trans rfl
   have hf_g8_6:=blk_frozen BK_g8.out 6
   go_upto_region 13 with fail
   clear hx_g13_0 hf_g13_0 hx_g13_1 hf_g13_1 hx_g13_2 hf_g13_2 hx_g13_3 hf_g13_3 hx_g13_4 hf_g13_4 hx_g13_5 hf_g13_5 hx_g13_6 hf_g13_6 hx_g8_0 hf_g8_0 hx_g8_1 hf_g8_1 hx_g8_2 hf_g8_2 hx_g8_3 hf_g8_3 hx_g8_4 hf_g8_4 hx_g8_5 hf_g8_5 hx_g8_6 hf_g8_6
   obtain ⟨w17,hw76_⟩ : ∃ w_ : World,set7 w16 g8 (.int .u64 b) (.slice Ax0 d.length p_0) (.slice Bx0 t.length q_0) (.slice Cx0 0 r_0) (.bool true) (.bool false) (.bool fc) = w_:=⟨_,rfl⟩
   have n77_:=Aside0.mk (blk7 hw76_ BK_g8.out)
   have n78_:=Aside0.mk (far7 hw76_ NB_g13_g8 BK_g13.out)
   have n79_:=Aside0.mk (far7 hw76_ NB_g14_g8 BK_g14.out)
   have n80_:=Aside0.mk (ends_V7o hw76_ (fun k_ hk_ => by have h_:=HCH.out;omega) O_d.out)
   have n81_:=Aside0.mk (ends_V7o hw76_ (fun k_ hk_ => by have h_:=HCH.out;omega) O_t.out)
   have n82_:=Aside0.mk (ends_V7o hw76_ (fun k_ hk_ => by have h_:=HCH.out;omega) O_c.out)
   have n83_:=Aside0.mk (ends_R7o hw76_ (fun k_ hk_ => by have h_:=HCH.out;omega) O_g.out)
   have n84_:=Aside0.mk (below7 hw76_ GE_g8.out HB.out)
   have n85_:=Aside0.mk ((ends_size7 hw76_).symm ▸ HS.out)
   rw [set7_fold,hw76_]
   clear hw76_ BK_g8 BK_g13 BK_g14 O_d O_t O_c O_g HB HS
   have BK_g8:=n77_
   have BK_g13:=n78_
   have BK_g14:=n79_
   have O_d:=n80_
   have O_t:=n81_
   have O_c:=n82_
   have O_g:=n83_
   have HB:=n84_
   have HS:=n85_
   clear n77_ n78_ n79_ n80_ n81_ n82_ n83_ n84_ n85_
   clear BK_g13
   clear BK_g14
   go_upto_block 4 with fail
   go_wp2_with fail
   go_loopg [18] l0.length (fun kq v18 w' => ∃ i : Int,v18 = .int .i64 i ∧ Aside0 (0 ≤ i ∧ i + kq = l0.length ∧ ∀ j : Nat,j < i.toNat → g.getD j false = true) ∧ Aside0 (Kd.V (Kd.int .u8) 5 w' w.heap.size (fun k_ => (k_ ≠ g8 ∧ (k_ < pg ∨ qg ≤ k_)) ∧ k_ < pz) (.slice Ax0 d.length p_0) (d)) ∧ Aside0 (Kd.V k37 37 w' w.heap.size (fun k_ => (k_ ≠ g8 ∧ (k_ < pg ∨ qg ≤ k_)) ∧ k_ < pz) (.slice Bx0 t.length q_0) (t)) ∧ Aside0 (Kd.V k37 37 w' w.heap.size (fun k_ => (k_ ≠ g8 ∧ (k_ < pg ∨ qg ≤ k_)) ∧ k_ < pz) (.slice Cx0 0 r_0) ([])) ∧ Aside0 (Kd.R Kd.bool 4 w' w.heap.size (fun k_ => pg ≤ k_ ∧ k_ < qg) (.slice Ag l0.length cg) (g)) ∧ Aside0 (w'.heap[g8]? = some (.cells #[.int .u64 b,.slice Ax0 d.length p_0,.slice Bx0 t.length q_0,.slice Cx0 0 r_0,.bool true,.bool false,.bool fc] 27 (0,0))) ∧ Aside0 (Below w.heap.size w w'))
   case atStart => exact ⟨0,rfl,⟨by simp⟩,O_d,O_t,O_c,O_g,BK_g8,HB⟩
   case round =>
   clear O_d O_t O_c O_g BK_g8 HB
   obtain ⟨i4,rfl,HI4,O_d,O_t,O_c,O_g,BK_g8,HB⟩:=hrel
   by_cases ci : i4 < (l0.length : Int)
   case pos =>
    have cib : decide (i4 < (l0.length : Int)) = true:=decide_eq_true ci
    cases gk with
    | zero => exact absurd HI4.out.2.1 (by omega)
    | succ k4 =>
     have p_ : 0 ≤ i4:=HI4.out.1
     have q_ : i4 < ((l0.length : Nat) : Int):=ci
     have hgl:=HGL.out
     obtain ⟨go,co,eo,gb,gl,cl,HG_⟩:=Kd.R_form O_g.out (by omega)
     injection eo with ea_ en_ ec_
     subst ea_ ec_
     clear en_ gl cl HG_ gb hgl
     obtain ⟨hx_,hf_⟩:=Kd.R_celln false O_g.out i4 p_ q_
     obtain ⟨gv,hgv⟩ : ∃ y_ : Bool,rdOf false g i4 = y_:=⟨_,rfl⟩
     rw [hgv] at hx_
     have HGV:=Aside0.mk hgv
     have HP_:=Aside0.mk p_
     have HQ_:=Aside0.mk q_
     have hw4 : wrap64 (i4 + 1) = i4 + 1:=by have h2:=HI4.out;have h3:=HN.out;unfold wrap64;omega
     clear hgv ci
     replace p_:=eq_true p_
     replace q_:=eq_true q_
     cases gv with
     | false =>
      have h6 : l2.length > 600:=H9.out.2 (fun ha_ => by
       have h_:=HQ_.out
       have h2_:=HP_.out
       have h3_:=HGL.out
       have hm_ : g.getD i4.toNat false ∈ g:=by
        rw [List.getD_eq_getElem?_getD,List.getElem?_eq_getElem (show i4.toNat < g.length by omega)]
        exact List.getElem_mem _
       have h4_:=List.all_eq_true.mp ha_ _ hm_
       have h5_ : g.getD i4.toNat false = false:=HGV.out
       rw [h5_] at h4_
       cases h4_)
      have k6 : decide ((l2.length : Int) > 600) = true:=decide_eq_true (by omega)
      have k7 : decide ((600 : Int) < (l2.length : Int)) = true:=decide_eq_true (by omega)
      have k8 : decide (600 < l2.length) = true:=decide_eq_true h6
      clear h6
      go_wp2
      go_ret
      exact ⟨rfl,HB.out⟩
     | true =>
      go_wp2
      go_roundg k4
      case measure => omega
      case rel => exact ⟨wrap64 (i4 + 1),rfl,⟨by
       have h2:=HI4.out
       rw [hw4]
       refine ⟨by omega,by omega,fun j hj => ?_⟩
       by_cases e_ : j < i4.toNat
       ·exact h2.2.2 j e_
       ·have e2_ : j = i4.toNat:=by omega
        rw [e2_]
        exact HGV.out⟩,O_d,O_t,O_c,O_g,BK_g8,HB⟩
   case neg =>
    have cib : decide (i4 < (l0.length : Int)) = false:=decide_eq_false ci
    have hall : g.all (fun x => x) = true:=by
     rw [List.all_eq_true]
     intro x hx
     obtain ⟨j,hj,hjx⟩:=List.getElem_of_mem hx
     have h2:=HI4.out
     have h3:=HGL.out
     have h4:=h2.2.2 j (by omega)
     rw [List.getD_eq_getElem?_getD,List.getElem?_eq_getElem hj,hjx] at h4
     exact h4
    have hd:=H9.out.1 hall
    clear hall HI4 ci
    by_cases cd : fc = true ∧ d = []
    case pos =>
     obtain ⟨rfl,hd0⟩:=cd
     have HD0:=Aside0.mk hd0
     clear hd0
     cases fin with
     | true =>
      clear hd
      have hx_g8_0 : wr.cell? ⟨g8,0,none⟩ = some (.int .u64 b):=(blk_cell BK_g8.out 0).trans rfl
      have hf_g8_0:=blk_frozen BK_g8.out 0
      have hx_g8_1 : wr.cell? ⟨g8,1,none⟩ = some (.slice Ax0 d.length p_0):=(blk_cell BK_g8.out 1).trans rfl
      have hf_g8_1:=blk_frozen BK_g8.out 1
      have hx_g8_2 : wr.cell? ⟨g8,2,none⟩ = some (.slice Bx0 t.length q_0):=(blk_cell BK_g8.out 2).trans rfl
      have hf_g8_2:=blk_frozen BK_g8.out 2
      have hx_g8_3 : wr.cell? ⟨g8,3,none⟩ = some (.slice Cx0 0 r_0):=(blk_cell BK_g8.out 3).trans rfl
      have hf_g8_3:=blk_frozen BK_g8.out 3
      have hx_g8_4 : wr.cell? ⟨g8,4,none⟩ = some (.bool true):=(blk_cell BK_g8.out 4).trans rfl
      have hf_g8_4:=blk_frozen BK_g8.out 4
      have hx_g8_5 : wr.cell? ⟨g8,5,none⟩ = some (.bool false):=(blk_cell BK_g8.out 5).trans rfl
      have hf_g8_5:=blk_frozen BK_g8.out 5
      have hx_g8_6 : wr.cell? ⟨g8,6,none⟩ = some (.bool true):=(blk_cell BK_g8.out 6).trans rfl
      have hf_g8_6:=blk_frozen BK_g8.out 6
      go_wp2_with (go_at_call 16;refine (supply_Done.calls b _ _ d _ _ t _ _ [] true false true true _ (Kd.V_reads' O_d.out).2.2 (Kd.V_reads' O_d.out).2.1 (Kd.V_reads' O_t.out).2.2 (Kd.V_reads' O_t.out).2.1 (Kd.V_reads' O_c.out).2.2 (Kd.V_reads' O_c.out).2.1 (by unfold supply_Done.f;rw [if_pos rfl,if_pos rfl,HD0.out];rfl)).mono ?_;rintro e_ w42 ⟨rfl,hb⟩;have HB2:=Aside0.mk (below_step HB.out hb);clear HB;have HB:=HB2;clear HB2 hb)
      go_ret
      exact ⟨rfl,HB.out⟩
     | false =>
      have h6 : l2.length > 600:=hd.resolve_left (fun x => by cases x.1)
      clear hd
      have k6 : decide ((l2.length : Int) > 600) = true:=decide_eq_true (by omega)
      have k7 : decide ((600 : Int) < (l2.length : Int)) = true:=decide_eq_true (by omega)
      have k8 : decide (600 < l2.length) = true:=decide_eq_true h6
      clear h6
      go_wp2
      go_ret
      exact ⟨rfl,HB.out⟩
    case neg =>
     have h6 : l2.length > 600:=hd.resolve_left (fun x => cd x.2)
     clear hd
     have k6 : decide ((l2.length : Int) > 600) = true:=decide_eq_true (by omega)
     have k7 : decide ((600 : Int) < (l2.length : Int)) = true:=decide_eq_true (by omega)
     have k8 : decide (600 < l2.length) = true:=decide_eq_true h6
     clear h6
     have hres : supply_Done.f b d t [] true false fc = some false:=by
      unfold supply_Done.f
      rw [if_pos rfl]
      by_cases e_ : fc = true
      ·rw [if_pos e_]
       have e2_ : ¬ d = []:=fun x => cd ⟨e_,x⟩
       cases d with
       | nil => exact absurd rfl e2_
       | cons x xs => simp;omega
      ·rw [if_neg e_]
     have HRES:=Aside0.mk hres
     clear hres cd
     cases fin with
     | true =>
      have hx_g8_0 : wr.cell? ⟨g8,0,none⟩ = some (.int .u64 b):=(blk_cell BK_g8.out 0).trans rfl
      have hf_g8_0:=blk_frozen BK_g8.out 0
      have hx_g8_1 : wr.cell? ⟨g8,1,none⟩ = some (.slice Ax0 d.length p_0):=(blk_cell BK_g8.out 1).trans rfl
      have hf_g8_1:=blk_frozen BK_g8.out 1
      have hx_g8_2 : wr.cell? ⟨g8,2,none⟩ = some (.slice Bx0 t.length q_0):=(blk_cell BK_g8.out 2).trans rfl
      have hf_g8_2:=blk_frozen BK_g8.out 2
      have hx_g8_3 : wr.cell? ⟨g8,3,none⟩ = some (.slice Cx0 0 r_0):=(blk_cell BK_g8.out 3).trans rfl
      have hf_g8_3:=blk_frozen BK_g8.out 3
      have hx_g8_4 : wr.cell? ⟨g8,4,none⟩ = some (.bool true):=(blk_cell BK_g8.out 4).trans rfl
      have hf_g8_4:=blk_frozen BK_g8.out 4
      have hx_g8_5 : wr.cell? ⟨g8,5,none⟩ = some (.bool false):=(blk_cell BK_g8.out 5).trans rfl
      have hf_g8_5:=blk_frozen BK_g8.out 5
      have hx_g8_6 : wr.cell? ⟨g8,6,none⟩ = some (.bool fc):=(blk_cell BK_g8.out 6).trans rfl
      have hf_g8_6:=blk_frozen BK_g8.out 6
      go_wp2_with (go_at_call 16;refine (supply_Done.calls b _ _ d _ _ t _ _ [] true false fc false _ (Kd.V_reads' O_d.out).2.2 (Kd.V_reads' O_d.out).2.1 (Kd.V_reads' O_t.out).2.2 (Kd.V_reads' O_t.out).2.1 (Kd.V_reads' O_c.out).2.2 (Kd.V_reads' O_c.out).2.1 (HRES.out)).mono ?_;rintro e_ w42 ⟨rfl,hb⟩;have HB2:=Aside0.mk (below_step HB.out hb);clear HB;have HB:=HB2;clear HB2 hb)
      go_ret
      exact ⟨rfl,HB.out⟩
     | false =>
      go_wp2
      go_ret
      exact ⟨rfl,HB.out⟩
  case neg =>
   rw [if_neg c6] at hq
   clear c6
   cases fin with
   | true => rw [if_pos rfl] at hq;cases hq
   | false =>
    rw [if_neg (by decide)] at hq
    replace hq:=Option.bind_eq_some_iff.mp hq
    obtain ⟨⟨off,tz,t2,m,cf⟩,hx,hq⟩:=hq
    dsimp only at hq
    have hoff : 0 ≤ off ∧ m.length ≤ d.length:=ends_tell_off hx HL.out.2.2.1
    have HO:=Aside0.mk hoff
    have HX:=Aside0.mk hx
    obtain ⟨f5,hf5⟩ : ∃ y_ : Bool,(ft && !cf) = y_:=⟨_,rfl⟩
    rw [hf5] at hq
    have HF5:=Aside0.mk hf5
    have HQ:=Aside0.mk hq
    clear hq hx hf5 hoff
    have hx_g8_0 : wr.cell? ⟨g8,0,none⟩ = some (.int .u64 b):=(blk_cell BK_g8.out 0).trans rfl
    have hf_g8_0:=blk_frozen BK_g8.out 0
    have hx_g8_1 : wr.cell? ⟨g8,1,none⟩ = some (.slice Ax0 d.length p_0):=(blk_cell BK_g8.out 1).trans rfl
    have hf_g8_1:=blk_frozen BK_g8.out 1
    have hx_g8_2 : wr.cell? ⟨g8,2,none⟩ = some (.slice Bx0 t.length q_0):=(blk_cell BK_g8.out 2).trans rfl
    have hf_g8_2:=blk_frozen BK_g8.out 2
    have hx_g8_3 : wr.cell? ⟨g8,3,none⟩ = some (.slice Cx0 0 r_0):=(blk_cell BK_g8.out 3).trans rfl
    have hf_g8_3:=blk_frozen BK_g8.out 3
    have hx_g8_4 : wr.cell? ⟨g8,4,none⟩ = some (.bool true):=(blk_cell BK_g8.out 4).trans rfl
    have hf_g8_4:=blk_frozen BK_g8.out 4
    have hx_g8_5 : wr.cell? ⟨g8,5,none⟩ = some (.bool ft):=(blk_cell BK_g8.out 5).trans rfl
    have hf_g8_5:=blk_frozen BK_g8.out 5
    have hx_g8_6 : wr.cell? ⟨g8,6,none⟩ = some (.bool fc):=(blk_cell BK_g8.out 6).trans rfl
    have hf_g8_6:=blk_frozen BK_g8.out 6
    go_upto_region 12 with (first
     | ((with_reducible refine gate_callee (f:=10) rfl ?_);refine goesL_ (some 46) rfl rfl Try.func10 (by kernel_rfl) rfl #[.agg #[.int .u64 b,.slice Ax0 d.length p_0,.slice Bx0 t.length q_0,.slice Cx0 0 r_0,.bool true,.bool ft,.bool fc],.int .i64 a1,.int .u64 1048576] rfl (by (try simp only [List.map_toArray,List.map_cons,List.map_nil]);first | done | rfl) ?_;refine (ends_next b _ _ d _ _ t _ _ ft fc a1 off tz t2 m cf _ (Kd.V_reads' O_d.out).2.2 (Kd.V_reads' O_d.out).2.1 (Kd.V_reads' O_t.out).2.2 (Kd.V_reads' O_t.out).2.1 (Kd.V_reads' O_c.out).2.2 (Kd.V_reads' O_c.out).2.1 HL.out HA1.out HX.out).mono ?_;rintro e_ w12 ⟨u1,u2,u3,u4,rfl,ho1,ho2,ho3,ho4,hb⟩;rw [HF5.out];refine ⟨_,rfl,?_⟩;obtain ⟨pn,hpn⟩ : ∃ n_ : Nat,n_ = wr.heap.size:=⟨_,rfl⟩;obtain ⟨qn,hqn⟩ : ∃ n_ : Nat,n_ = w12.heap.size:=⟨_,rfl⟩;replace HCH:=Aside0.mk (And.intro HCH.out (show pz ≤ pn ∧ pn ≤ qn by have h_:=HS.out;have h2_:=hb.size;omega));have O_d_n:=Aside0.mk (Kd.R_V (base':=wr.heap.size) (Kd.R_mono (Kd.R_bound ho1) (ok':=fun k_ => pn ≤ k_ ∧ k_ < qn) (fun k_ hk_ => ⟨by rw [hpn];exact hk_.2.1,by rw [hqn];exact hk_.2.2.1⟩)));have O_t_n:=Aside0.mk (Kd.R_V (base':=wr.heap.size) (Kd.R_mono (Kd.R_bound ho2) (ok':=fun k_ => pn ≤ k_ ∧ k_ < qn) (fun k_ hk_ => ⟨by rw [hpn];exact hk_.2.1,by rw [hqn];exact hk_.2.2.1⟩)));have O_c_n:=Aside0.mk (Kd.R_V (base':=wr.heap.size) (Kd.R_mono (Kd.R_bound ho3) (ok':=fun k_ => pn ≤ k_ ∧ k_ < qn) (fun k_ hk_ => ⟨by rw [hpn];exact hk_.2.1,by rw [hqn];exact hk_.2.2.1⟩)));have O_m_n:=Aside0.mk (Kd.R_V (base':=wr.heap.size) (Kd.R_mono (Kd.R_bound ho4) (ok':=fun k_ => pn ≤ k_ ∧ k_ < qn) (fun k_ hk_ => ⟨by rw [hpn];exact hk_.2.1,by rw [hqn];exact hk_.2.2.1⟩)));clear ho1 ho2 ho3 ho4;clear hx_g8_0 hf_g8_0 hx_g8_1 hf_g8_1 hx_g8_2 hf_g8_2 hx_g8_3 hf_g8_3 hx_g8_4 hf_g8_4 hx_g8_5 hf_g8_5 hx_g8_6 hf_g8_6;have n34_:=Aside0.mk (below_step HB.out hb);have n35_:=Aside0.mk ((Nat.le_trans (show _ ≤ _ from HS.out) hb.size : pz ≤ w12.heap.size));have n36_:=Aside0.mk (blk_below BK_g8.out hb);have n37_:=Aside0.mk (Kd.V_below O_d.out hb);have n38_:=Aside0.mk (Kd.V_below O_t.out hb);have n39_:=Aside0.mk (Kd.V_below O_c.out hb);have n40_:=Aside0.mk (Kd.R_below O_g.out hb);clear HB HS BK_g8 O_d O_t O_c O_g;have HB:=n34_;have HS:=n35_;have BK_g8:=n36_;have O_d:=n37_;have O_t:=n38_;have O_c:=n39_;have O_g:=n40_;clear n34_ n35_ n36_ n37_ n38_ n39_ n40_;replace HS:=Aside0.mk (show qn ≤ w12.heap.size by rw [hqn];exact Nat.le_refl _);clear hb hpn hqn;obtain ⟨An,p_n,eo⟩:=Kd.V_slice O_d_n.out;subst eo;obtain ⟨Bn,q_n,eo⟩:=Kd.V_slice O_t_n.out;subst eo;obtain ⟨Cn,r_n,eo⟩:=Kd.V_slice O_c_n.out;subst eo;obtain ⟨Mn,nn,eo⟩:=Kd.V_slice O_m_n.out;subst eo;clear O_d O_t O_c)
     | ((with_reducible refine gate_dst (N:=13) rfl ?_);refine box_event ?hg (N:=13) ?hd (cs:=#[.int .u64 0,.slice none 0 0,.slice none 0 0,.slice none 0 0,.bool false,.bool false,.bool false]) (t:=27) ?hr ?_;(case hd => rfl);(case hg => rfl);(case hr => first | (go_simp;done) | (go_simp;rfl));intro g13 hg w13 hbox hb;have GE_g13:=Aside0.mk (show w.heap.size ≤ g13 by rw [hg];exact HB.out.size);have NB_g8_g13 : g8 ≠ g13:=(by rw [hg];exact Nat.ne_of_lt (blk_lt BK_g8.out));have NB_g13_g8:=NB_g8_g13.symm;replace HCH:=Aside0.mk (And.intro HCH.out (show qn ≤ g13 by rw [hg];exact HS.out));have n41_:=Aside0.mk (below_step HB.out hb);have n42_:=Aside0.mk ((Nat.le_trans (show _ ≤ _ from HS.out) hb.size : qn ≤ w13.heap.size));have n43_:=Aside0.mk (blk_below BK_g8.out hb);have n44_:=Aside0.mk (Kd.R_below O_g.out hb);have n45_:=Aside0.mk (Kd.V_below O_d_n.out hb);have n46_:=Aside0.mk (Kd.V_below O_t_n.out hb);have n47_:=Aside0.mk (Kd.V_below O_c_n.out hb);have n48_:=Aside0.mk (Kd.V_below O_m_n.out hb);clear HB HS BK_g8 O_g O_d_n O_t_n O_c_n O_m_n;have HB:=n41_;have HS:=n42_;have BK_g8:=n43_;have O_g:=n44_;have O_d_n:=n45_;have O_t_n:=n46_;have O_c_n:=n47_;have O_m_n:=n48_;clear n41_ n42_ n43_ n44_ n45_ n46_ n47_ n48_;replace HS:=Aside0.mk (show g13 < w13.heap.size from blk_lt hbox);have BK_g13:=Aside0.mk hbox;clear hbox hb hg)
     | ((with_reducible refine gate_dst (N:=14) rfl ?_);refine box_event ?hg (N:=14) ?hd (cs:=#[.int .u64 0,.slice none 0 0,.bool false]) (t:=32) ?hr ?_;(case hd => rfl);(case hg => rfl);(case hr => first | (go_simp;done) | (go_simp;rfl));intro g14 hg w14 hbox hb;have GE_g14:=Aside0.mk (show w.heap.size ≤ g14 by rw [hg];exact HB.out.size);have NB_g8_g14 : g8 ≠ g14:=(by rw [hg];exact Nat.ne_of_lt (blk_lt BK_g8.out));have NB_g14_g8:=NB_g8_g14.symm;have NB_g13_g14 : g13 ≠ g14:=(by rw [hg];exact Nat.ne_of_lt (blk_lt BK_g13.out));have NB_g14_g13:=NB_g13_g14.symm;replace HCH:=Aside0.mk (And.intro HCH.out (show g13 < g14 by rw [hg];exact HS.out));have n49_:=Aside0.mk (below_step HB.out hb);have n50_:=Aside0.mk ((Nat.lt_of_lt_of_le (show _ < _ from HS.out) hb.size : g13 < w14.heap.size));have n51_:=Aside0.mk (blk_below BK_g8.out hb);have n52_:=Aside0.mk (blk_below BK_g13.out hb);have n53_:=Aside0.mk (Kd.R_below O_g.out hb);have n54_:=Aside0.mk (Kd.V_below O_d_n.out hb);have n55_:=Aside0.mk (Kd.V_below O_t_n.out hb);have n56_:=Aside0.mk (Kd.V_below O_c_n.out hb);have n57_:=Aside0.mk (Kd.V_below O_m_n.out hb);clear HB HS BK_g8 BK_g13 O_g O_d_n O_t_n O_c_n O_m_n;have HB:=n49_;have HS:=n50_;have BK_g8:=n51_;have BK_g13:=n52_;have O_g:=n53_;have O_d_n:=n54_;have O_t_n:=n55_;have O_c_n:=n56_;have O_m_n:=n57_;clear n49_ n50_ n51_ n52_ n53_ n54_ n55_ n56_ n57_;replace HS:=Aside0.mk (show g14 < w14.heap.size from blk_lt hbox);have BK_g14:=Aside0.mk hbox;clear hbox hb hg;have hx_g13_0 : w14.cell? ⟨g13,0,none⟩ = some (.int .u64 0):=(blk_cell BK_g13.out 0).trans rfl;have hf_g13_0:=blk_frozen BK_g13.out 0;have hx_g13_1 : w14.cell? ⟨g13,1,none⟩ = some (.slice none 0 0):=(blk_cell BK_g13.out 1).trans rfl;have hf_g13_1:=blk_frozen BK_g13.out 1;have hx_g13_2 : w14.cell? ⟨g13,2,none⟩ = some (.slice none 0 0):=(blk_cell BK_g13.out 2).trans rfl;have hf_g13_2:=blk_frozen BK_g13.out 2;have hx_g13_3 : w14.cell? ⟨g13,3,none⟩ = some (.slice none 0 0):=(blk_cell BK_g13.out 3).trans rfl;have hf_g13_3:=blk_frozen BK_g13.out 3;have hx_g13_4 : w14.cell? ⟨g13,4,none⟩ = some (.bool false):=(blk_cell BK_g13.out 4).trans rfl;have hf_g13_4:=blk_frozen BK_g13.out 4;have hx_g13_5 : w14.cell? ⟨g13,5,none⟩ = some (.bool false):=(blk_cell BK_g13.out 5).trans rfl;have hf_g13_5:=blk_frozen BK_g13.out 5;have hx_g13_6 : w14.cell? ⟨g13,6,none⟩ = some (.bool false):=(blk_cell BK_g13.out 6).trans rfl;have hf_g13_6:=blk_frozen BK_g13.out 6;have hx_g14_0 : w14.cell? ⟨g14,0,none⟩ = some (.int .u64 0):=(blk_cell BK_g14.out 0).trans rfl;have hf_g14_0:=blk_frozen BK_g14.out 0;have hx_g14_1 : w14.cell? ⟨g14,1,none⟩ = some (.slice none 0 0):=(blk_cell BK_g14.out 1).trans rfl;have hf_g14_1:=blk_frozen BK_g14.out 1;have hx_g14_2 : w14.cell? ⟨g14,2,none⟩ = some (.bool false):=(blk_cell BK_g14.out 2).trans rfl;have hf_g14_2:=blk_frozen BK_g14.out 2))
    clear hx_g13_0 hf_g13_0 hx_g13_1 hf_g13_1 hx_g13_2 hf_g13_2 hx_g13_3 hf_g13_3 hx_g13_4 hf_g13_4 hx_g13_5 hf_g13_5 hx_g13_6 hf_g13_6 hx_g14_0 hf_g14_0 hx_g14_1 hf_g14_1 hx_g14_2 hf_g14_2
    obtain ⟨w15,hw58_⟩ : ∃ w_ : World,set7 w14 g13 (.int .u64 b) (.slice An d.length p_n) (.slice Bn t2.length q_n) (.slice Cn 0 r_n) (.bool true) (.bool f5) (.bool fc) = w_:=⟨_,rfl⟩
    have n59_:=Aside0.mk (blk7 hw58_ BK_g13.out)
    have n60_:=Aside0.mk (far7 hw58_ NB_g8_g13 BK_g8.out)
    have n61_:=Aside0.mk (far7 hw58_ NB_g14_g13 BK_g14.out)
    have n62_:=Aside0.mk (ends_R7o hw58_ (fun k_ hk_ => by have h_:=HCH.out;omega) O_g.out)
    have n63_:=Aside0.mk (ends_V7o hw58_ (fun k_ hk_ => by have h_:=HCH.out;omega) O_d_n.out)
    have n64_:=Aside0.mk (ends_V7o hw58_ (fun k_ hk_ => by have h_:=HCH.out;omega) O_t_n.out)
    have n65_:=Aside0.mk (ends_V7o hw58_ (fun k_ hk_ => by have h_:=HCH.out;omega) O_c_n.out)
    have n66_:=Aside0.mk (ends_V7o hw58_ (fun k_ hk_ => by have h_:=HCH.out;omega) O_m_n.out)
    have n67_:=Aside0.mk (below7 hw58_ GE_g13.out HB.out)
    have n68_:=Aside0.mk ((ends_size7 hw58_).symm ▸ HS.out)
    rw [set7_fold,hw58_]
    clear hw58_ BK_g13 BK_g8 BK_g14 O_g O_d_n O_t_n O_c_n O_m_n HB HS
    have BK_g13:=n59_
    have BK_g8:=n60_
    have BK_g14:=n61_
    have O_g:=n62_
    have O_d_n:=n63_
    have O_t_n:=n64_
    have O_c_n:=n65_
    have O_m_n:=n66_
    have HB:=n67_
    have HS:=n68_
    clear n59_ n60_ n61_ n62_ n63_ n64_ n65_ n66_ n67_ n68_
    obtain ⟨w16,hw69_⟩ : ∃ w_ : World,set3 w15 g14 (.int .u64 off) (.slice Mn m.length nn) (.bool cf) = w_:=⟨_,rfl⟩
    have n70_:=Aside0.mk (blk3 hw69_ BK_g14.out)
    have n71_:=Aside0.mk (far3 hw69_ NB_g8_g14 BK_g8.out)
    have n72_:=Aside0.mk (far3 hw69_ NB_g13_g14 BK_g13.out)
    have n73_:=Aside0.mk (ends_R3o hw69_ (fun k_ hk_ => by have h_:=HCH.out;omega) O_g.out)
    have n74_:=Aside0.mk (ends_V3o hw69_ (fun k_ hk_ => by have h_:=HCH.out;omega) O_d_n.out)
    have n75_:=Aside0.mk (ends_V3o hw69_ (fun k_ hk_ => by have h_:=HCH.out;omega) O_t_n.out)
    have n76_:=Aside0.mk (ends_V3o hw69_ (fun k_ hk_ => by have h_:=HCH.out;omega) O_c_n.out)
    have n77_:=Aside0.mk (ends_V3o hw69_ (fun k_ hk_ => by have h_:=HCH.out;omega) O_m_n.out)
    have n78_:=Aside0.mk (below3 hw69_ GE_g14.out HB.out)
    have n79_:=Aside0.mk ((ends_size3 hw69_).symm ▸ HS.out)
    rw [set3_fold,hw69_]
    clear hw69_ BK_g14 BK_g8 BK_g13 O_g O_d_n O_t_n O_c_n O_m_n HB HS
    have BK_g14:=n70_
    have BK_g8:=n71_
    have BK_g13:=n72_
    have O_g:=n73_
    have O_d_n:=n74_
    have O_t_n:=n75_
    have O_c_n:=n76_
    have O_m_n:=n77_
    have HB:=n78_
    have HS:=n79_
    clear n70_ n71_ n72_ n73_ n74_ n75_ n76_ n77_ n78_ n79_
    have hx_g13_0 : w16.cell? ⟨g13,0,none⟩ = some (.int .u64 b):=(blk_cell BK_g13.out 0).trans rfl
    have hf_g13_0:=blk_frozen BK_g13.out 0
    have hx_g13_1 : w16.cell? ⟨g13,1,none⟩ = some (.slice An d.length p_n):=(blk_cell BK_g13.out 1).trans rfl
    have hf_g13_1:=blk_frozen BK_g13.out 1
    have hx_g13_2 : w16.cell? ⟨g13,2,none⟩ = some (.slice Bn t2.length q_n):=(blk_cell BK_g13.out 2).trans rfl
    have hf_g13_2:=blk_frozen BK_g13.out 2
    have hx_g13_3 : w16.cell? ⟨g13,3,none⟩ = some (.slice Cn 0 r_n):=(blk_cell BK_g13.out 3).trans rfl
    have hf_g13_3:=blk_frozen BK_g13.out 3
    have hx_g13_4 : w16.cell? ⟨g13,4,none⟩ = some (.bool true):=(blk_cell BK_g13.out 4).trans rfl
    have hf_g13_4:=blk_frozen BK_g13.out 4
    have hx_g13_5 : w16.cell? ⟨g13,5,none⟩ = some (.bool f5):=(blk_cell BK_g13.out 5).trans rfl
    have hf_g13_5:=blk_frozen BK_g13.out 5
    have hx_g13_6 : w16.cell? ⟨g13,6,none⟩ = some (.bool fc):=(blk_cell BK_g13.out 6).trans rfl
    have hf_g13_6:=blk_frozen BK_g13.out 6
    have hx_g8_0 : w16.cell? ⟨g8,0,none⟩ = some (.int .u64 b):=(blk_cell BK_g8.out 0).trans rfl
    have hf_g8_0:=blk_frozen BK_g8.out 0
    have hx_g8_1 : w16.cell? ⟨g8,1,none⟩ = some (.slice Ax0 d.length p_0):=(blk_cell BK_g8.out 1).trans rfl
    have hf_g8_1:=blk_frozen BK_g8.out 1
    have hx_g8_2 : w16.cell? ⟨g8,2,none⟩ = some (.slice Bx0 t.length q_0):=(blk_cell BK_g8.out 2).trans rfl
    have hf_g8_2:=blk_frozen BK_g8.out 2
    have hx_g8_3 : w16.cell? ⟨g8,3,none⟩ = some (.slice Cx0 0 r_0):=(blk_cell BK_g8.out 3).trans rfl
    have hf_g8_3:=blk_frozen BK_g8.out 3
    have hx_g8_4 : w16.cell? ⟨g8,4,none⟩ = some (.bool true):=(blk_cell BK_g8.out 4).trans rfl
    have hf_g8_4:=blk_frozen BK_g8.out 4
    have hx_g8_5 : w16.cell? ⟨g8,5,none⟩ = some (.bool ft):=(blk_cell BK_g8.out 5).trans rfl
    have hf_g8_5:=blk_frozen BK_g8.out 5
    have hx_g8_6 : w16.cell? ⟨g8,6,none⟩ = some (.bool fc):=(blk_cell BK_g8.out 6).trans rfl
    have hf_g8_6:=blk_frozen BK_g8.out 6
    go_upto_region 13 with fail
    clear hx_g13_0 hf_g13_0 hx_g13_1 hf_g13_1 hx_g13_2 hf_g13_2 hx_g13_3 hf_g13_3 hx_g13_4 hf_g13_4 hx_g13_5 hf_g13_5 hx_g13_6 hf_g13_6 hx_g8_0 hf_g8_0 hx_g8_1 hf_g8_1 hx_g8_2 hf_g8_2 hx_g8_3 hf_g8_3 hx_g8_4 hf_g8_4 hx_g8_5 hf_g8_5 hx_g8_6 hf_g8_6
    obtain ⟨w17,hw80_⟩ : ∃ w_ : World,set7 w16 g8 (.int .u64 b) (.slice An d.length p_n) (.slice Bn t2.length q_n) (.slice Cn 0 r_n) (.bool true) (.bool f5) (.bool fc) = w_:=⟨_,rfl⟩
    have n81_:=Aside0.mk (blk7 hw80_ BK_g8.out)
    have n82_:=Aside0.mk (far7 hw80_ NB_g13_g8 BK_g13.out)
    have n83_:=Aside0.mk (far7 hw80_ NB_g14_g8 BK_g14.out)
    have n84_:=Aside0.mk (ends_R7o hw80_ (fun k_ hk_ => by have h_:=HCH.out;omega) O_g.out)
    have n85_:=Aside0.mk (ends_V7o hw80_ (fun k_ hk_ => by have h_:=HCH.out;omega) O_d_n.out)
    have n86_:=Aside0.mk (ends_V7o hw80_ (fun k_ hk_ => by have h_:=HCH.out;omega) O_t_n.out)
    have n87_:=Aside0.mk (ends_V7o hw80_ (fun k_ hk_ => by have h_:=HCH.out;omega) O_c_n.out)
    have n88_:=Aside0.mk (ends_V7o hw80_ (fun k_ hk_ => by have h_:=HCH.out;omega) O_m_n.out)
    have n89_:=Aside0.mk (below7 hw80_ GE_g8.out HB.out)
    have n90_:=Aside0.mk ((ends_size7 hw80_).symm ▸ HS.out)
    rw [set7_fold,hw80_]
    clear hw80_ BK_g8 BK_g13 BK_g14 O_g O_d_n O_t_n O_c_n O_m_n HB HS
    have BK_g8:=n81_
    have BK_g13:=n82_
    have BK_g14:=n83_
    have O_g:=n84_
    have O_d_n:=n85_
    have O_t_n:=n86_
    have O_c_n:=n87_
    have O_m_n:=n88_
    have HB:=n89_
    have HS:=n90_
    clear n81_ n82_ n83_ n84_ n85_ n86_ n87_ n88_ n89_ n90_
    clear BK_g13
    by_cases ci : i < (l2.length : Int)
    case pos =>
     have cb1 : decide (i < (l2.length : Int)) = true:=decide_eq_true ci
     have p0_ : 0 ≤ i:=HI.out.1
     obtain ⟨ad,e_,hxa0⟩:=Kd.at_bool HR2.out i p0_ ci
     subst e_
     obtain ⟨lb,hlb⟩ : ∃ y_ : Bool,rdOf false l2 i = y_:=⟨_,rfl⟩
     rw [hlb] at hxa0
     have HXA:=Aside0.mk hxa0
     have HLB0:=Aside0.mk (show l2.getD i.toNat false = lb from hlb)
     have qi1 : (0 ≤ i) = True:=eq_true p0_
     have qi2 : (i < (l2.length : Int)) = True:=eq_true ci
     clear hxa0 hlb ci p0_
     have hxa_ : w17.cell? (ad.add i.toNat) = some (.bool lb):=(HB.out.cell (World.block_lt_of_cell? w _ HXA.out)).trans HXA.out
     cases lb with
     | true =>
      have HLB:=HLB0
      have hq:=HQ.out
      rw [if_pos HLB.out] at hq
      replace hq:=Option.bind_eq_some_iff.mp hq
      obtain ⟨⟨b3,d3,t3,c3,fi3,ft3,fc3⟩,hC,hq⟩:=hq
      dsimp only at hq
      by_cases c8 : b3 = b ∧ d3 = d ∧ c3 = [] ∧ fi3 = true ∧ fc3 = fc
      case neg => rw [if_neg c8] at hq;cases hq
      rw [if_pos c8] at hq
      obtain ⟨e1,e2,e3,e4,e5⟩:=c8
      replace e1:=e1.symm
      replace e2:=e2.symm
      replace e5:=e5.symm
      subst e1 e2 e3 e4 e5
      have HG:=Aside0.mk hq
      have HC_:=Aside0.mk hC
      clear hq hC HQ
      have hx_g8_0 : w17.cell? ⟨g8,0,none⟩ = some (.int .u64 b):=(blk_cell BK_g8.out 0).trans rfl
      have hf_g8_0:=blk_frozen BK_g8.out 0
      have hx_g8_1 : w17.cell? ⟨g8,1,none⟩ = some (.slice An d.length p_n):=(blk_cell BK_g8.out 1).trans rfl
      have hf_g8_1:=blk_frozen BK_g8.out 1
      have hx_g8_2 : w17.cell? ⟨g8,2,none⟩ = some (.slice Bn t2.length q_n):=(blk_cell BK_g8.out 2).trans rfl
      have hf_g8_2:=blk_frozen BK_g8.out 2
      have hx_g8_3 : w17.cell? ⟨g8,3,none⟩ = some (.slice Cn 0 r_n):=(blk_cell BK_g8.out 3).trans rfl
      have hf_g8_3:=blk_frozen BK_g8.out 3
      have hx_g8_4 : w17.cell? ⟨g8,4,none⟩ = some (.bool true):=(blk_cell BK_g8.out 4).trans rfl
      have hf_g8_4:=blk_frozen BK_g8.out 4
      have hx_g8_5 : w17.cell? ⟨g8,5,none⟩ = some (.bool f5):=(blk_cell BK_g8.out 5).trans rfl
      have hf_g8_5:=blk_frozen BK_g8.out 5
      have hx_g8_6 : w17.cell? ⟨g8,6,none⟩ = some (.bool fc):=(blk_cell BK_g8.out 6).trans rfl
      have hf_g8_6:=blk_frozen BK_g8.out 6
      have hx_g14_0 : w17.cell? ⟨g14,0,none⟩ = some (.int .u64 off):=(blk_cell BK_g14.out 0).trans rfl
      have hf_g14_0:=blk_frozen BK_g14.out 0
      have hx_g14_1 : w17.cell? ⟨g14,1,none⟩ = some (.slice Mn m.length nn):=(blk_cell BK_g14.out 1).trans rfl
      have hf_g14_1:=blk_frozen BK_g14.out 1
      have hx_g14_2 : w17.cell? ⟨g14,2,none⟩ = some (.bool cf):=(blk_cell BK_g14.out 2).trans rfl
      have hf_g14_2:=blk_frozen BK_g14.out 2
      go_upto_region 15 with fail
      clear hxa_
      go_wp2_with ((with_reducible refine gate_callee (f:=12) rfl ?_);refine goesL_ (some 65) rfl rfl Try.func12 (by kernel_rfl) rfl #[.agg #[.int .u64 b,.slice An d.length p_n,.slice Bn t2.length q_n,.slice Cn 0 r_n,.bool true,.bool f5,.bool fc],.agg #[.int .u64 off,.slice Mn m.length nn,.bool cf]] rfl (by (try simp only [List.map_toArray,List.map_cons,List.map_nil]);first | done | rfl) ?_;refine (supply_Lost.calls k b _ _ d _ _ t2 _ _ [] true f5 fc off _ _ m cf _ _ _ _ _ _ _ _ (Kd.V_reads' O_d_n.out).2.2 (Kd.V_reads' O_d_n.out).2.1 (Kd.V_reads' O_t_n.out).2.2 (Kd.V_reads' O_t_n.out).2.1 (Kd.V_reads' O_c_n.out).2.2 (Kd.V_reads' O_c_n.out).2.1 (Kd.V_reads' O_m_n.out).2.2 (Kd.V_reads' O_m_n.out).2.1 HC_.out).mono ?_;rintro e_ w21 ⟨u1,u2,u3,rfl,ho1,ho2,ho3,hb⟩;refine ⟨_,rfl,?_⟩;obtain ⟨pl,hpl⟩ : ∃ n_ : Nat,n_ = w17.heap.size:=⟨_,rfl⟩;obtain ⟨ql,hql⟩ : ∃ n_ : Nat,n_ = w21.heap.size:=⟨_,rfl⟩;replace HCH:=Aside0.mk (And.intro HCH.out (show g14 < pl ∧ pl ≤ ql by have h_:=HS.out;have h2_:=hb.size;omega));have O_d_l:=Aside0.mk (Kd.R_V (base':=w17.heap.size) (Kd.R_mono (Kd.R_bound ho1) (ok':=fun k_ => pl ≤ k_ ∧ k_ < ql) (fun k_ hk_ => ⟨by rw [hpl];exact hk_.2.1,by rw [hql];exact hk_.2.2.1⟩)));have O_t_l:=Aside0.mk (Kd.R_V (base':=w17.heap.size) (Kd.R_mono (Kd.R_bound ho2) (ok':=fun k_ => pl ≤ k_ ∧ k_ < ql) (fun k_ hk_ => ⟨by rw [hpl];exact hk_.2.1,by rw [hql];exact hk_.2.2.1⟩)));have O_c_l:=Aside0.mk (Kd.R_V (base':=w17.heap.size) (Kd.R_mono (Kd.R_bound ho3) (ok':=fun k_ => pl ≤ k_ ∧ k_ < ql) (fun k_ hk_ => ⟨by rw [hpl];exact hk_.2.1,by rw [hql];exact hk_.2.2.1⟩)));clear ho1 ho2 ho3;clear hx_g8_0 hf_g8_0 hx_g8_1 hf_g8_1 hx_g8_2 hf_g8_2 hx_g8_3 hf_g8_3 hx_g8_4 hf_g8_4 hx_g8_5 hf_g8_5 hx_g8_6 hf_g8_6 hx_g14_0 hf_g14_0 hx_g14_1 hf_g14_1 hx_g14_2 hf_g14_2;have n91_:=Aside0.mk (below_step HB.out hb);have n92_:=Aside0.mk ((Nat.lt_of_lt_of_le (show _ < _ from HS.out) hb.size : g14 < w21.heap.size));have n93_:=Aside0.mk (blk_below BK_g8.out hb);have n94_:=Aside0.mk (blk_below BK_g14.out hb);have n95_:=Aside0.mk (Kd.R_below O_g.out hb);have n96_:=Aside0.mk (Kd.V_below O_d_n.out hb);have n97_:=Aside0.mk (Kd.V_below O_t_n.out hb);have n98_:=Aside0.mk (Kd.V_below O_c_n.out hb);have n99_:=Aside0.mk (Kd.V_below O_m_n.out hb);clear HB HS BK_g8 BK_g14 O_g O_d_n O_t_n O_c_n O_m_n;have HB:=n91_;have HS:=n92_;have BK_g8:=n93_;have BK_g14:=n94_;have O_g:=n95_;have O_d_n:=n96_;have O_t_n:=n97_;have O_c_n:=n98_;have O_m_n:=n99_;clear n91_ n92_ n93_ n94_ n95_ n96_ n97_ n98_ n99_;replace HS:=Aside0.mk (show ql ≤ w21.heap.size by rw [hql];exact Nat.le_refl _);clear hb hpl hql;obtain ⟨Al,p_l,eo⟩:=Kd.V_slice O_d_l.out;subst eo;obtain ⟨Bl,q_l,eo⟩:=Kd.V_slice O_t_l.out;subst eo;obtain ⟨Cl,r_l,eo⟩:=Kd.V_slice O_c_l.out;subst eo;have hx_g8_0 : w21.cell? ⟨g8,0,none⟩ = some (.int .u64 b):=(blk_cell BK_g8.out 0).trans rfl;have hf_g8_0:=blk_frozen BK_g8.out 0;have hx_g8_1 : w21.cell? ⟨g8,1,none⟩ = some (.slice An d.length p_n):=(blk_cell BK_g8.out 1).trans rfl;have hf_g8_1:=blk_frozen BK_g8.out 1;have hx_g8_2 : w21.cell? ⟨g8,2,none⟩ = some (.slice Bn t2.length q_n):=(blk_cell BK_g8.out 2).trans rfl;have hf_g8_2:=blk_frozen BK_g8.out 2;have hx_g8_3 : w21.cell? ⟨g8,3,none⟩ = some (.slice Cn 0 r_n):=(blk_cell BK_g8.out 3).trans rfl;have hf_g8_3:=blk_frozen BK_g8.out 3;have hx_g8_4 : w21.cell? ⟨g8,4,none⟩ = some (.bool true):=(blk_cell BK_g8.out 4).trans rfl;have hf_g8_4:=blk_frozen BK_g8.out 4;have hx_g8_5 : w21.cell? ⟨g8,5,none⟩ = some (.bool f5):=(blk_cell BK_g8.out 5).trans rfl;have hf_g8_5:=blk_frozen BK_g8.out 5;have hx_g8_6 : w21.cell? ⟨g8,6,none⟩ = some (.bool fc):=(blk_cell BK_g8.out 6).trans rfl;have hf_g8_6:=blk_frozen BK_g8.out 6)
      clear hx_g8_0 hf_g8_0 hx_g8_1 hf_g8_1 hx_g8_2 hf_g8_2 hx_g8_3 hf_g8_3 hx_g8_4 hf_g8_4 hx_g8_5 hf_g8_5 hx_g8_6 hf_g8_6
      obtain ⟨w22,hw100_⟩ : ∃ w_ : World,set7 w21 g8 (.int .u64 b) (.slice Al d.length p_l) (.slice Bl t3.length q_l) (.slice Cl 0 r_l) (.bool true) (.bool ft3) (.bool fc) = w_:=⟨_,rfl⟩
      have n101_:=Aside0.mk (blk7 hw100_ BK_g8.out)
      have n102_:=Aside0.mk (far7 hw100_ NB_g14_g8 BK_g14.out)
      have n103_:=Aside0.mk (ends_R7o hw100_ (fun k_ hk_ => by have h_:=HCH.out;omega) O_g.out)
      have n104_:=Aside0.mk (ends_V7o hw100_ (fun k_ hk_ => by have h_:=HCH.out;omega) O_d_n.out)
      have n105_:=Aside0.mk (ends_V7o hw100_ (fun k_ hk_ => by have h_:=HCH.out;omega) O_t_n.out)
      have n106_:=Aside0.mk (ends_V7o hw100_ (fun k_ hk_ => by have h_:=HCH.out;omega) O_c_n.out)
      have n107_:=Aside0.mk (ends_V7o hw100_ (fun k_ hk_ => by have h_:=HCH.out;omega) O_m_n.out)
      have n108_:=Aside0.mk (ends_V7o hw100_ (fun k_ hk_ => by have h_:=HCH.out;omega) O_d_l.out)
      have n109_:=Aside0.mk (ends_V7o hw100_ (fun k_ hk_ => by have h_:=HCH.out;omega) O_t_l.out)
      have n110_:=Aside0.mk (ends_V7o hw100_ (fun k_ hk_ => by have h_:=HCH.out;omega) O_c_l.out)
      have n111_:=Aside0.mk (below7 hw100_ GE_g8.out HB.out)
      have n112_:=Aside0.mk ((ends_size7 hw100_).symm ▸ HS.out)
      rw [set7_fold,hw100_]
      clear hw100_ BK_g8 BK_g14 O_g O_d_n O_t_n O_c_n O_m_n O_d_l O_t_l O_c_l HB HS
      have BK_g8:=n101_
      have BK_g14:=n102_
      have O_g:=n103_
      have O_d_n:=n104_
      have O_t_n:=n105_
      have O_c_n:=n106_
      have O_m_n:=n107_
      have O_d_l:=n108_
      have O_t_l:=n109_
      have O_c_l:=n110_
      have HB:=n111_
      have HS:=n112_
      clear n101_ n102_ n103_ n104_ n105_ n106_ n107_ n108_ n109_ n110_ n111_ n112_
      go_roundg k1
      case measure => omega
      case rel => exact ⟨wrap64 (i + 1),b,d,t3,ft3,fc,false,g,_,_,_,rfl,rfl,⟨by have h2:=HI.out;rw [hw];omega⟩,⟨by rw [HI2.out];exact HG.out⟩,⟨Kd.V_mono O_d_l.out (fun k_ hk_ => by have h_:=HCH.out;omega)⟩,⟨Kd.V_mono O_t_l.out (fun k_ hk_ => by have h_:=HCH.out;omega)⟩,⟨Kd.V_mono O_c_l.out (fun k_ hk_ => by have h_:=HCH.out;omega)⟩,O_g,BK_g8,⟨by have h_:=HCH.out;have h2_:=HS.out;omega⟩,HB⟩
     | false =>
      have HLB:=Aside0.mk (show ¬ l2.getD i.toNat false = true by rw [HLB0.out];decide)
      have hq:=HQ.out
      rw [if_neg HLB.out] at hq
      replace hq:=Option.bind_eq_some_iff.mp hq
      obtain ⟨⟨b3,d3,t3,c3,fi3,ft3,fc3⟩,hC,hq⟩:=hq
      dsimp only at hq
      by_cases c8 : c3 = [] ∧ fi3 = true
      case neg => rw [if_neg c8] at hq;cases hq
      rw [if_pos c8] at hq
      obtain ⟨rfl,rfl⟩:=c8
      replace hq:=Option.bind_eq_some_iff.mp hq
      obtain ⟨g3,hM,hq⟩:=hq
      have HG:=Aside0.mk hq
      have HC_:=Aside0.mk hC
      have HM:=Aside0.mk hM
      clear hq hC hM HQ
      have hx_g8_0 : w17.cell? ⟨g8,0,none⟩ = some (.int .u64 b):=(blk_cell BK_g8.out 0).trans rfl
      have hf_g8_0:=blk_frozen BK_g8.out 0
      have hx_g8_1 : w17.cell? ⟨g8,1,none⟩ = some (.slice An d.length p_n):=(blk_cell BK_g8.out 1).trans rfl
      have hf_g8_1:=blk_frozen BK_g8.out 1
      have hx_g8_2 : w17.cell? ⟨g8,2,none⟩ = some (.slice Bn t2.length q_n):=(blk_cell BK_g8.out 2).trans rfl
      have hf_g8_2:=blk_frozen BK_g8.out 2
      have hx_g8_3 : w17.cell? ⟨g8,3,none⟩ = some (.slice Cn 0 r_n):=(blk_cell BK_g8.out 3).trans rfl
      have hf_g8_3:=blk_frozen BK_g8.out 3
      have hx_g8_4 : w17.cell? ⟨g8,4,none⟩ = some (.bool true):=(blk_cell BK_g8.out 4).trans rfl
      have hf_g8_4:=blk_frozen BK_g8.out 4
      have hx_g8_5 : w17.cell? ⟨g8,5,none⟩ = some (.bool f5):=(blk_cell BK_g8.out 5).trans rfl
      have hf_g8_5:=blk_frozen BK_g8.out 5
      have hx_g8_6 : w17.cell? ⟨g8,6,none⟩ = some (.bool fc):=(blk_cell BK_g8.out 6).trans rfl
      have hf_g8_6:=blk_frozen BK_g8.out 6
      have hx_g14_0 : w17.cell? ⟨g14,0,none⟩ = some (.int .u64 off):=(blk_cell BK_g14.out 0).trans rfl
      have hf_g14_0:=blk_frozen BK_g14.out 0
      have hx_g14_1 : w17.cell? ⟨g14,1,none⟩ = some (.slice Mn m.length nn):=(blk_cell BK_g14.out 1).trans rfl
      have hf_g14_1:=blk_frozen BK_g14.out 1
      have hx_g14_2 : w17.cell? ⟨g14,2,none⟩ = some (.bool cf):=(blk_cell BK_g14.out 2).trans rfl
      have hf_g14_2:=blk_frozen BK_g14.out 2
      go_upto_region 16 with fail
      (try clear hxa_)
      go_upto_region 17 with (first
       | ((with_reducible refine gate_callee (f:=11) rfl ?_);refine goesL_ (some 68) rfl rfl Try.func11 (by kernel_rfl) rfl #[.agg #[.int .u64 b,.slice An d.length p_n,.slice Bn t2.length q_n,.slice Cn 0 r_n,.bool true,.bool f5,.bool fc],.agg #[.int .u64 off,.slice Mn m.length nn,.bool cf]] rfl (by (try simp only [List.map_toArray,List.map_cons,List.map_nil]);first | done | rfl) ?_;refine (supply_Came.calls k b _ _ d _ _ t2 _ _ [] true f5 fc off _ _ m cf _ _ _ _ _ _ _ _ (Kd.V_reads' O_d_n.out).2.2 (Kd.V_reads' O_d_n.out).2.1 (Kd.V_reads' O_t_n.out).2.2 (Kd.V_reads' O_t_n.out).2.1 (Kd.V_reads' O_c_n.out).2.2 (Kd.V_reads' O_c_n.out).2.1 (Kd.V_reads' O_m_n.out).2.2 (Kd.V_reads' O_m_n.out).2.1 HC_.out).mono ?_;rintro e_ w21 ⟨u1,u2,u3,rfl,ho1,ho2,ho3,hb⟩;refine ⟨_,rfl,?_⟩;obtain ⟨pc,hpc⟩ : ∃ n_ : Nat,n_ = w17.heap.size:=⟨_,rfl⟩;obtain ⟨qc,hqc⟩ : ∃ n_ : Nat,n_ = w21.heap.size:=⟨_,rfl⟩;replace HCH:=Aside0.mk (And.intro HCH.out (show g14 < pc ∧ pc ≤ qc by have h_:=HS.out;have h2_:=hb.size;omega));have O_d_c:=Aside0.mk (Kd.V_mono (Kd.V_bound ho1) (ok':=fun k_ => pc ≤ k_ ∧ k_ < qc) (fun k_ hk_ => ⟨by rw [hpc];exact hk_.1,by rw [hqc];exact hk_.2⟩));have O_t_c:=Aside0.mk (Kd.V_mono (Kd.V_bound ho2) (ok':=fun k_ => pc ≤ k_ ∧ k_ < qc) (fun k_ hk_ => ⟨by rw [hpc];exact hk_.1,by rw [hqc];exact hk_.2⟩));have O_c_c:=Aside0.mk (Kd.V_mono (Kd.V_bound ho3) (ok':=fun k_ => pc ≤ k_ ∧ k_ < qc) (fun k_ hk_ => ⟨by rw [hpc];exact hk_.1,by rw [hqc];exact hk_.2⟩));clear ho1 ho2 ho3;clear hx_g8_0 hf_g8_0 hx_g8_1 hf_g8_1 hx_g8_2 hf_g8_2 hx_g8_3 hf_g8_3 hx_g8_4 hf_g8_4 hx_g8_5 hf_g8_5 hx_g8_6 hf_g8_6 hx_g14_0 hf_g14_0 hx_g14_1 hf_g14_1 hx_g14_2 hf_g14_2;have n91_:=Aside0.mk (below_step HB.out hb);have n92_:=Aside0.mk ((Nat.lt_of_lt_of_le (show _ < _ from HS.out) hb.size : g14 < w21.heap.size));have n93_:=Aside0.mk (blk_below BK_g8.out hb);have n94_:=Aside0.mk (blk_below BK_g14.out hb);have n95_:=Aside0.mk (Kd.R_below O_g.out hb);have n96_:=Aside0.mk (Kd.V_below O_d_n.out hb);have n97_:=Aside0.mk (Kd.V_below O_t_n.out hb);have n98_:=Aside0.mk (Kd.V_below O_c_n.out hb);have n99_:=Aside0.mk (Kd.V_below O_m_n.out hb);clear HB HS BK_g8 BK_g14 O_g O_d_n O_t_n O_c_n O_m_n;have HB:=n91_;have HS:=n92_;have BK_g8:=n93_;have BK_g14:=n94_;have O_g:=n95_;have O_d_n:=n96_;have O_t_n:=n97_;have O_c_n:=n98_;have O_m_n:=n99_;clear n91_ n92_ n93_ n94_ n95_ n96_ n97_ n98_ n99_;replace HS:=Aside0.mk (show qc ≤ w21.heap.size by rw [hqc];exact Nat.le_refl _);clear hb hpc hqc;obtain ⟨Ac,p_c,eo⟩:=Kd.V_slice O_d_c.out;subst eo;obtain ⟨Bc,q_c,eo⟩:=Kd.V_slice O_t_c.out;subst eo;obtain ⟨Cc,r_c,eo⟩:=Kd.V_slice O_c_c.out;subst eo;clear O_d_n O_t_n O_c_n O_m_n;have hx_g8_0 : w21.cell? ⟨g8,0,none⟩ = some (.int .u64 b):=(blk_cell BK_g8.out 0).trans rfl;have hf_g8_0:=blk_frozen BK_g8.out 0;have hx_g8_1 : w21.cell? ⟨g8,1,none⟩ = some (.slice An d.length p_n):=(blk_cell BK_g8.out 1).trans rfl;have hf_g8_1:=blk_frozen BK_g8.out 1;have hx_g8_2 : w21.cell? ⟨g8,2,none⟩ = some (.slice Bn t2.length q_n):=(blk_cell BK_g8.out 2).trans rfl;have hf_g8_2:=blk_frozen BK_g8.out 2;have hx_g8_3 : w21.cell? ⟨g8,3,none⟩ = some (.slice Cn 0 r_n):=(blk_cell BK_g8.out 3).trans rfl;have hf_g8_3:=blk_frozen BK_g8.out 3;have hx_g8_4 : w21.cell? ⟨g8,4,none⟩ = some (.bool true):=(blk_cell BK_g8.out 4).trans rfl;have hf_g8_4:=blk_frozen BK_g8.out 4;have hx_g8_5 : w21.cell? ⟨g8,5,none⟩ = some (.bool f5):=(blk_cell BK_g8.out 5).trans rfl;have hf_g8_5:=blk_frozen BK_g8.out 5;have hx_g8_6 : w21.cell? ⟨g8,6,none⟩ = some (.bool fc):=(blk_cell BK_g8.out 6).trans rfl;have hf_g8_6:=blk_frozen BK_g8.out 6))
      clear hx_g8_0 hf_g8_0 hx_g8_1 hf_g8_1 hx_g8_2 hf_g8_2 hx_g8_3 hf_g8_3 hx_g8_4 hf_g8_4 hx_g8_5 hf_g8_5 hx_g8_6 hf_g8_6
      obtain ⟨w22,hw100_⟩ : ∃ w_ : World,set7 w21 g8 (.int .u64 b3) (.slice Ac d3.length p_c) (.slice Bc t3.length q_c) (.slice Cc 0 r_c) (.bool true) (.bool ft3) (.bool fc3) = w_:=⟨_,rfl⟩
      have n101_:=Aside0.mk (blk7 hw100_ BK_g8.out)
      have n102_:=Aside0.mk (far7 hw100_ NB_g14_g8 BK_g14.out)
      have n103_:=Aside0.mk (ends_R7o hw100_ (fun k_ hk_ => by have h_:=HCH.out;omega) O_g.out)
      have n104_:=Aside0.mk (ends_V7o hw100_ (fun k_ hk_ => by have h_:=HCH.out;omega) O_d_c.out)
      have n105_:=Aside0.mk (ends_V7o hw100_ (fun k_ hk_ => by have h_:=HCH.out;omega) O_t_c.out)
      have n106_:=Aside0.mk (ends_V7o hw100_ (fun k_ hk_ => by have h_:=HCH.out;omega) O_c_c.out)
      have n107_:=Aside0.mk (below7 hw100_ GE_g8.out HB.out)
      have n108_:=Aside0.mk ((ends_size7 hw100_).symm ▸ HS.out)
      rw [set7_fold,hw100_]
      clear hw100_ BK_g8 BK_g14 O_g O_d_c O_t_c O_c_c HB HS
      have BK_g8:=n101_
      have BK_g14:=n102_
      have O_g:=n103_
      have O_d_c:=n104_
      have O_t_c:=n105_
      have O_c_c:=n106_
      have HB:=n107_
      have HS:=n108_
      clear n101_ n102_ n103_ n104_ n105_ n106_ n107_ n108_
      have hx_g14_0 : w22.cell? ⟨g14,0,none⟩ = some (.int .u64 off):=(blk_cell BK_g14.out 0).trans rfl
      have hf_g14_0:=blk_frozen BK_g14.out 0
      have hx_g14_1 : w22.cell? ⟨g14,1,none⟩ = some (.slice Mn m.length nn):=(blk_cell BK_g14.out 1).trans rfl
      have hf_g14_1:=blk_frozen BK_g14.out 1
      have hx_g14_2 : w22.cell? ⟨g14,2,none⟩ = some (.bool cf):=(blk_cell BK_g14.out 2).trans rfl
      have hf_g14_2:=blk_frozen BK_g14.out 2
      go_upto_block 2 with fail
      go_wp2_with fail
      clear hx_g14_0 hf_g14_0 hx_g14_1 hf_g14_1 hx_g14_2 hf_g14_2
      go_loopg [16] m.length (fun kq v16 w' => ∃ (j : Int) (gx : List Bool),v16 = .int .i64 j ∧ Aside0 (0 ≤ j ∧ j + kq = m.length ∧ gx.length = l0.length) ∧ Aside0 (ends_mark off kq j.toNat gx = some g3) ∧ Aside0 (Kd.V (Kd.int .u8) 5 w' w17.heap.size (fun k_ => pc ≤ k_ ∧ k_ < qc) (.slice Ac d3.length p_c) (d3)) ∧ Aside0 (Kd.V k37 37 w' w17.heap.size (fun k_ => pc ≤ k_ ∧ k_ < qc) (.slice Bc t3.length q_c) (t3)) ∧ Aside0 (Kd.V k37 37 w' w17.heap.size (fun k_ => pc ≤ k_ ∧ k_ < qc) (.slice Cc 0 r_c) ([])) ∧ Aside0 (Kd.R Kd.bool 4 w' w.heap.size (fun k_ => pg ≤ k_ ∧ k_ < qg) (.slice Ag l0.length cg) (gx)) ∧ Aside0 (w'.heap[g8]? = some (.cells #[.int .u64 b3,.slice Ac d3.length p_c,.slice Bc t3.length q_c,.slice Cc 0 r_c,.bool true,.bool ft3,.bool fc3] 27 (0,0))) ∧ Aside0 (w'.heap[g14]? = some (.cells #[.int .u64 off,.slice Mn m.length nn,.bool cf] 32 (0,0))) ∧ Aside0 (qc ≤ w'.heap.size) ∧ Aside0 (Below w.heap.size w w'))
      case atStart => exact ⟨0,g,rfl,⟨by have h_:=HGL.out;simp;omega⟩,HM,O_d_c,O_t_c,O_c_c,O_g,BK_g8,BK_g14,HS,HB⟩
      case round =>
      clear O_d_c O_t_c O_c_c O_g BK_g8 BK_g14 HS HB
      obtain ⟨j,gx,rfl,HJ,HM2,O_d_c,O_t_c,O_c_c,O_g,BK_g8,BK_g14,HS,HB⟩:=hrel
      cases gk with
      | zero =>
       have hm:=HM2.out
       rw [ends_mark] at hm
       obtain rfl:=Option.some.inj hm
       have HGX:=Aside0.mk (show gx.length = l0.length from HJ.out.2.2)
       have kj : decide (j < (m.length : Int)) = false:=decide_eq_false (by have h_:=HJ.out;omega)
       clear hm HM2 HJ
       have hx_g14_0 : wr.cell? ⟨g14,0,none⟩ = some (.int .u64 off):=(blk_cell BK_g14.out 0).trans rfl
       have hf_g14_0:=blk_frozen BK_g14.out 0
       have hx_g14_1 : wr.cell? ⟨g14,1,none⟩ = some (.slice Mn m.length nn):=(blk_cell BK_g14.out 1).trans rfl
       have hf_g14_1:=blk_frozen BK_g14.out 1
       have hx_g14_2 : wr.cell? ⟨g14,2,none⟩ = some (.bool cf):=(blk_cell BK_g14.out 2).trans rfl
       have hf_g14_2:=blk_frozen BK_g14.out 2
       go_wp2
       go_roundg k1
       case measure => omega
       case rel => exact ⟨wrap64 (i + 1),b3,d3,t3,ft3,fc3,cf,gx,_,_,_,rfl,rfl,⟨by have h2:=HI.out;have h3:=HGX.out;rw [hw];omega⟩,⟨by rw [HI2.out];exact HG.out⟩,⟨Kd.V_mono O_d_c.out (fun k_ hk_ => by have h_:=HCH.out;omega)⟩,⟨Kd.V_mono O_t_c.out (fun k_ hk_ => by have h_:=HCH.out;omega)⟩,⟨Kd.V_mono O_c_c.out (fun k_ hk_ => by have h_:=HCH.out;omega)⟩,O_g,BK_g8,⟨by have h_:=HCH.out;have h2_:=HS.out;omega⟩,HB⟩
      | succ k2 =>
       have hm:=HM2.out
       rw [ends_mark] at hm
       have hj : ((j.toNat : Nat) : Int) = j:=by have h_:=HJ.out;omega
       rw [hj] at hm
       by_cases c9 : 0 ≤ off + j ∧ off + j < (gx.length : Int) ∧ gx.getD (off + j).toNat true = false
       case neg => rw [if_neg c9] at hm;cases hm
       rw [if_pos c9] at hm
       obtain ⟨zp,hzp⟩ : ∃ y_ : Int,off + j = y_:=⟨_,rfl⟩
       rw [hzp] at hm c9
       have HM3:=Aside0.mk hm
       have hgl:=HJ.out.2.2
       have p_ : 0 ≤ zp:=c9.1
       have q_ : zp < ((l0.length : Nat) : Int):=by rw [← hgl];exact c9.2.1
       have hv_ : rdOf false gx zp = false:=by
        have h_:=c9.2.2
        have h2_:=c9.2.1
        show gx.getD zp.toNat false = false
        rw [List.getD_eq_getElem?_getD,List.getElem?_eq_getElem (show zp.toNat < gx.length by omega)] at h_ ⊢
        exact h_
       have kj : decide (j < (m.length : Int)) = true:=decide_eq_true (by have h_:=HJ.out;omega)
       have hwj : wrap64 (j + 1) = j + 1:=by have h2:=HJ.out;have h3:=HO.out;have h4:=HL.out;unfold wrap64;omega
       have HJ2:=Aside0.mk (show (wrap64 (j + 1)).toNat = j.toNat + 1 by rw [hwj];have h2:=HJ.out;omega)
       have u1_ : IntKind.u64.wrap j = j:=by rw [IntKind.wrap_u64];have h2:=HJ.out;have h3:=HO.out;have h4:=HL.out;omega
       have u2_ : IntKind.u64.wrap (off + j) = zp:=by rw [hzp,IntKind.wrap_u64];have h2:=HN.out;omega
       have u3_ : IntKind.u64.wrap (l0.length : Int) = (l0.length : Int):=by rw [IntKind.wrap_u64];have h2:=HN.out;omega
       have u4_ : decide (zp ≥ (l0.length : Int)) = false:=decide_eq_false (by omega)
       have u5_ : decide ((l0.length : Int) ≤ zp) = false:=decide_eq_false (by omega)
       obtain ⟨go,co,eo,gb,gl,cl,HG_⟩:=Kd.R_form O_g.out (by omega)
       injection eo with ea_ en_ ec_
       subst ea_ ec_
       clear en_ gl cl HG_
       have hgo:=O_g.out.1 go (by simp [Value.ownBlock])
       obtain ⟨hx_,hf_⟩:=Kd.R_celln false O_g.out zp p_ q_
       rw [hv_] at hx_
       have HP:=Kd.R_putg O_g.out zp true
       have GB:=Aside0.mk (show w.heap.size ≤ go by have h_:=HCH.out;omega)
       have HGO:=Aside0.mk hgo
       clear hgo gb hv_ c9 hm hj hzp hgl HM2
       replace p_:=eq_true p_
       replace q_:=eq_true q_
       have hx_g14_0 : wr.cell? ⟨g14,0,none⟩ = some (.int .u64 off):=(blk_cell BK_g14.out 0).trans rfl
       have hf_g14_0:=blk_frozen BK_g14.out 0
       have hx_g14_1 : wr.cell? ⟨g14,1,none⟩ = some (.slice Mn m.length nn):=(blk_cell BK_g14.out 1).trans rfl
       have hf_g14_1:=blk_frozen BK_g14.out 1
       have hx_g14_2 : wr.cell? ⟨g14,2,none⟩ = some (.bool cf):=(blk_cell BK_g14.out 2).trans rfl
       have hf_g14_2:=blk_frozen BK_g14.out 2
       go_wp2_with ((with_reducible refine gate_store (t:=4) (p:=99) rfl ?_);refine store_event (t:=4) (p:=99) (v:=?vo_24) (w1:=(wr.setCell ⟨go,zp.toNat,none⟩ (.bool true))) ?hg ?ho ?hn ?hr ?_;(case ho => rfl);(case hg => rfl);(case hn => rfl);(case hr => first | (go_simp;done) | (go_simp;rfl));intro ws hw_;have hg : wr.grownBy ws (some go):=(by rw [hw_];exact HP.2);have hp_ : Kd.R Kd.bool 4 ws w.heap.size (fun k_ => pg ≤ k_ ∧ k_ < qg) (.slice (some ⟨go,0,none⟩) l0.length cg) (gx.set zp.toNat true):=(by rw [hw_];exact HP.1);clear HP;clear hx_g14_0 hf_g14_0 hx_g14_1 hf_g14_1 hx_g14_2 hf_g14_2;have n109_:=Aside0.mk (blk_grown BK_g8.out hg (Kd.R_ne O_g.out BK_g8.out (by decide)));have n110_:=Aside0.mk (blk_grown BK_g14.out hg (Kd.R_ne O_g.out BK_g14.out (by decide)));have n111_:=Aside0.mk (Kd.V_grown O_d_c.out hg (fun k_ hk_ he_ => by injection he_ with he_;have h_:=HCH.out;have h2_:=HGO.out;omega));have n112_:=Aside0.mk (Kd.V_grown O_t_c.out hg (fun k_ hk_ he_ => by injection he_ with he_;have h_:=HCH.out;have h2_:=HGO.out;omega));have n113_:=Aside0.mk (Kd.V_grown O_c_c.out hg (fun k_ hk_ he_ => by injection he_ with he_;have h_:=HCH.out;have h2_:=HGO.out;omega));have n114_:=Aside0.mk ((by rw [hw_];exact below_set HB.out GB.out : Below w.heap.size w ws));have n115_:=Aside0.mk ((Nat.le_trans (show _ ≤ _ from HS.out) hg.size : qc ≤ ws.heap.size));clear BK_g8 BK_g14 O_d_c O_t_c O_c_c HB HS;have BK_g8:=n109_;have BK_g14:=n110_;have O_d_c:=n111_;have O_t_c:=n112_;have O_c_c:=n113_;have HB:=n114_;have HS:=n115_;clear n109_ n110_ n111_ n112_ n113_ n114_ n115_;replace O_g:=Aside0.mk hp_;clear hp_ hg hw_)
       go_roundg k2
       case measure => omega
       case rel => exact ⟨wrap64 (j + 1),_,(by first | rfl | simp only [hwj]),⟨by have h2:=HJ.out;rw [hwj,List.length_set];omega⟩,⟨by rw [HJ2.out];exact HM3.out⟩,O_d_c,O_t_c,O_c_c,O_g,BK_g8,BK_g14,HS,HB⟩
    case neg =>
     have cb1 : decide (i < (l2.length : Int)) = false:=decide_eq_false ci
     have HLB:=Aside0.mk (show ¬ l2.getD i.toNat false = true by rw [List.getD_eq_getElem?_getD,List.getElem?_eq_none (by have h_:=HI.out;omega)];decide)
     clear ci
     have hq:=HQ.out
     rw [if_neg HLB.out] at hq
     replace hq:=Option.bind_eq_some_iff.mp hq
     obtain ⟨⟨b3,d3,t3,c3,fi3,ft3,fc3⟩,hC,hq⟩:=hq
     dsimp only at hq
     by_cases c8 : c3 = [] ∧ fi3 = true
     case neg => rw [if_neg c8] at hq;cases hq
     rw [if_pos c8] at hq
     obtain ⟨rfl,rfl⟩:=c8
     replace hq:=Option.bind_eq_some_iff.mp hq
     obtain ⟨g3,hM,hq⟩:=hq
     have HG:=Aside0.mk hq
     have HC_:=Aside0.mk hC
     have HM:=Aside0.mk hM
     clear hq hC hM HQ
     have hx_g8_0 : w17.cell? ⟨g8,0,none⟩ = some (.int .u64 b):=(blk_cell BK_g8.out 0).trans rfl
     have hf_g8_0:=blk_frozen BK_g8.out 0
     have hx_g8_1 : w17.cell? ⟨g8,1,none⟩ = some (.slice An d.length p_n):=(blk_cell BK_g8.out 1).trans rfl
     have hf_g8_1:=blk_frozen BK_g8.out 1
     have hx_g8_2 : w17.cell? ⟨g8,2,none⟩ = some (.slice Bn t2.length q_n):=(blk_cell BK_g8.out 2).trans rfl
     have hf_g8_2:=blk_frozen BK_g8.out 2
     have hx_g8_3 : w17.cell? ⟨g8,3,none⟩ = some (.slice Cn 0 r_n):=(blk_cell BK_g8.out 3).trans rfl
     have hf_g8_3:=blk_frozen BK_g8.out 3
     have hx_g8_4 : w17.cell? ⟨g8,4,none⟩ = some (.bool true):=(blk_cell BK_g8.out 4).trans rfl
     have hf_g8_4:=blk_frozen BK_g8.out 4
     have hx_g8_5 : w17.cell? ⟨g8,5,none⟩ = some (.bool f5):=(blk_cell BK_g8.out 5).trans rfl
     have hf_g8_5:=blk_frozen BK_g8.out 5
     have hx_g8_6 : w17.cell? ⟨g8,6,none⟩ = some (.bool fc):=(blk_cell BK_g8.out 6).trans rfl
     have hf_g8_6:=blk_frozen BK_g8.out 6
     have hx_g14_0 : w17.cell? ⟨g14,0,none⟩ = some (.int .u64 off):=(blk_cell BK_g14.out 0).trans rfl
     have hf_g14_0:=blk_frozen BK_g14.out 0
     have hx_g14_1 : w17.cell? ⟨g14,1,none⟩ = some (.slice Mn m.length nn):=(blk_cell BK_g14.out 1).trans rfl
     have hf_g14_1:=blk_frozen BK_g14.out 1
     have hx_g14_2 : w17.cell? ⟨g14,2,none⟩ = some (.bool cf):=(blk_cell BK_g14.out 2).trans rfl
     have hf_g14_2:=blk_frozen BK_g14.out 2
     go_upto_region 16 with fail
     (try clear hxa_)
     go_upto_region 17 with (first
      | ((with_reducible refine gate_callee (f:=11) rfl ?_);refine goesL_ (some 68) rfl rfl Try.func11 (by kernel_rfl) rfl #[.agg #[.int .u64 b,.slice An d.length p_n,.slice Bn t2.length q_n,.slice Cn 0 r_n,.bool true,.bool f5,.bool fc],.agg #[.int .u64 off,.slice Mn m.length nn,.bool cf]] rfl (by (try simp only [List.map_toArray,List.map_cons,List.map_nil]);first | done | rfl) ?_;refine (supply_Came.calls k b _ _ d _ _ t2 _ _ [] true f5 fc off _ _ m cf _ _ _ _ _ _ _ _ (Kd.V_reads' O_d_n.out).2.2 (Kd.V_reads' O_d_n.out).2.1 (Kd.V_reads' O_t_n.out).2.2 (Kd.V_reads' O_t_n.out).2.1 (Kd.V_reads' O_c_n.out).2.2 (Kd.V_reads' O_c_n.out).2.1 (Kd.V_reads' O_m_n.out).2.2 (Kd.V_reads' O_m_n.out).2.1 HC_.out).mono ?_;rintro e_ w21 ⟨u1,u2,u3,rfl,ho1,ho2,ho3,hb⟩;refine ⟨_,rfl,?_⟩;obtain ⟨pc,hpc⟩ : ∃ n_ : Nat,n_ = w17.heap.size:=⟨_,rfl⟩;obtain ⟨qc,hqc⟩ : ∃ n_ : Nat,n_ = w21.heap.size:=⟨_,rfl⟩;replace HCH:=Aside0.mk (And.intro HCH.out (show g14 < pc ∧ pc ≤ qc by have h_:=HS.out;have h2_:=hb.size;omega));have O_d_c:=Aside0.mk (Kd.V_mono (Kd.V_bound ho1) (ok':=fun k_ => pc ≤ k_ ∧ k_ < qc) (fun k_ hk_ => ⟨by rw [hpc];exact hk_.1,by rw [hqc];exact hk_.2⟩));have O_t_c:=Aside0.mk (Kd.V_mono (Kd.V_bound ho2) (ok':=fun k_ => pc ≤ k_ ∧ k_ < qc) (fun k_ hk_ => ⟨by rw [hpc];exact hk_.1,by rw [hqc];exact hk_.2⟩));have O_c_c:=Aside0.mk (Kd.V_mono (Kd.V_bound ho3) (ok':=fun k_ => pc ≤ k_ ∧ k_ < qc) (fun k_ hk_ => ⟨by rw [hpc];exact hk_.1,by rw [hqc];exact hk_.2⟩));clear ho1 ho2 ho3;clear hx_g8_0 hf_g8_0 hx_g8_1 hf_g8_1 hx_g8_2 hf_g8_2 hx_g8_3 hf_g8_3 hx_g8_4 hf_g8_4 hx_g8_5 hf_g8_5 hx_g8_6 hf_g8_6 hx_g14_0 hf_g14_0 hx_g14_1 hf_g14_1 hx_g14_2 hf_g14_2;have n91_:=Aside0.mk (below_step HB.out hb);have n92_:=Aside0.mk ((Nat.lt_of_lt_of_le (show _ < _ from HS.out) hb.size : g14 < w21.heap.size));have n93_:=Aside0.mk (blk_below BK_g8.out hb);have n94_:=Aside0.mk (blk_below BK_g14.out hb);have n95_:=Aside0.mk (Kd.R_below O_g.out hb);have n96_:=Aside0.mk (Kd.V_below O_d_n.out hb);have n97_:=Aside0.mk (Kd.V_below O_t_n.out hb);have n98_:=Aside0.mk (Kd.V_below O_c_n.out hb);have n99_:=Aside0.mk (Kd.V_below O_m_n.out hb);clear HB HS BK_g8 BK_g14 O_g O_d_n O_t_n O_c_n O_m_n;have HB:=n91_;have HS:=n92_;have BK_g8:=n93_;have BK_g14:=n94_;have O_g:=n95_;have O_d_n:=n96_;have O_t_n:=n97_;have O_c_n:=n98_;have O_m_n:=n99_;clear n91_ n92_ n93_ n94_ n95_ n96_ n97_ n98_ n99_;replace HS:=Aside0.mk (show qc ≤ w21.heap.size by rw [hqc];exact Nat.le_refl _);clear hb hpc hqc;obtain ⟨Ac,p_c,eo⟩:=Kd.V_slice O_d_c.out;subst eo;obtain ⟨Bc,q_c,eo⟩:=Kd.V_slice O_t_c.out;subst eo;obtain ⟨Cc,r_c,eo⟩:=Kd.V_slice O_c_c.out;subst eo;clear O_d_n O_t_n O_c_n O_m_n;have hx_g8_0 : w21.cell? ⟨g8,0,none⟩ = some (.int .u64 b):=(blk_cell BK_g8.out 0).trans rfl;have hf_g8_0:=blk_frozen BK_g8.out 0;have hx_g8_1 : w21.cell? ⟨g8,1,none⟩ = some (.slice An d.length p_n):=(blk_cell BK_g8.out 1).trans rfl;have hf_g8_1:=blk_frozen BK_g8.out 1;have hx_g8_2 : w21.cell? ⟨g8,2,none⟩ = some (.slice Bn t2.length q_n):=(blk_cell BK_g8.out 2).trans rfl;have hf_g8_2:=blk_frozen BK_g8.out 2;have hx_g8_3 : w21.cell? ⟨g8,3,none⟩ = some (.slice Cn 0 r_n):=(blk_cell BK_g8.out 3).trans rfl;have hf_g8_3:=blk_frozen BK_g8.out 3;have hx_g8_4 : w21.cell? ⟨g8,4,none⟩ = some (.bool true):=(blk_cell BK_g8.out 4).trans rfl;have hf_g8_4:=blk_frozen BK_g8.out 4;have hx_g8_5 : w21.cell? ⟨g8,5,none⟩ = some (.bool f5):=(blk_cell BK_g8.out 5).trans rfl;have hf_g8_5:=blk_frozen BK_g8.out 5;have hx_g8_6 : w21.cell? ⟨g8,6,none⟩ = some (.bool fc):=(blk_cell BK_g8.out 6).trans rfl;have hf_g8_6:=blk_frozen BK_g8.out 6))
     clear hx_g8_0 hf_g8_0 hx_g8_1 hf_g8_1 hx_g8_2 hf_g8_2 hx_g8_3 hf_g8_3 hx_g8_4 hf_g8_4 hx_g8_5 hf_g8_5 hx_g8_6 hf_g8_6
     obtain ⟨w22,hw100_⟩ : ∃ w_ : World,set7 w21 g8 (.int .u64 b3) (.slice Ac d3.length p_c) (.slice Bc t3.length q_c) (.slice Cc 0 r_c) (.bool true) (.bool ft3) (.bool fc3) = w_:=⟨_,rfl⟩
     have n101_:=Aside0.mk (blk7 hw100_ BK_g8.out)
     have n102_:=Aside0.mk (far7 hw100_ NB_g14_g8 BK_g14.out)
     have n103_:=Aside0.mk (ends_R7o hw100_ (fun k_ hk_ => by have h_:=HCH.out;omega) O_g.out)
     have n104_:=Aside0.mk (ends_V7o hw100_ (fun k_ hk_ => by have h_:=HCH.out;omega) O_d_c.out)
     have n105_:=Aside0.mk (ends_V7o hw100_ (fun k_ hk_ => by have h_:=HCH.out;omega) O_t_c.out)
     have n106_:=Aside0.mk (ends_V7o hw100_ (fun k_ hk_ => by have h_:=HCH.out;omega) O_c_c.out)
     have n107_:=Aside0.mk (below7 hw100_ GE_g8.out HB.out)
     have n108_:=Aside0.mk ((ends_size7 hw100_).symm ▸ HS.out)
     rw [set7_fold,hw100_]
     clear hw100_ BK_g8 BK_g14 O_g O_d_c O_t_c O_c_c HB HS
     have BK_g8:=n101_
     have BK_g14:=n102_
     have O_g:=n103_
     have O_d_c:=n104_
     have O_t_c:=n105_
     have O_c_c:=n106_
     have HB:=n107_
     have HS:=n108_
     clear n101_ n102_ n103_ n104_ n105_ n106_ n107_ n108_
     have hx_g14_0 : w22.cell? ⟨g14,0,none⟩ = some (.int .u64 off):=(blk_cell BK_g14.out 0).trans rfl
     have hf_g14_0:=blk_frozen BK_g14.out 0
     have hx_g14_1 : w22.cell? ⟨g14,1,none⟩ = some (.slice Mn m.length nn):=(blk_cell BK_g14.out 1).trans rfl
     have hf_g14_1:=blk_frozen BK_g14.out 1
     have hx_g14_2 : w22.cell? ⟨g14,2,none⟩ = some (.bool cf):=(blk_cell BK_g14.out 2).trans rfl
     have hf_g14_2:=blk_frozen BK_g14.out 2
     go_upto_block 2 with fail
     go_wp2_with fail
     clear hx_g14_0 hf_g14_0 hx_g14_1 hf_g14_1 hx_g14_2 hf_g14_2
     go_loopg [16] m.length (fun kq v16 w' => ∃ (j : Int) (gx : List Bool),v16 = .int .i64 j ∧ Aside0 (0 ≤ j ∧ j + kq = m.length ∧ gx.length = l0.length) ∧ Aside0 (ends_mark off kq j.toNat gx = some g3) ∧ Aside0 (Kd.V (Kd.int .u8) 5 w' w17.heap.size (fun k_ => pc ≤ k_ ∧ k_ < qc) (.slice Ac d3.length p_c) (d3)) ∧ Aside0 (Kd.V k37 37 w' w17.heap.size (fun k_ => pc ≤ k_ ∧ k_ < qc) (.slice Bc t3.length q_c) (t3)) ∧ Aside0 (Kd.V k37 37 w' w17.heap.size (fun k_ => pc ≤ k_ ∧ k_ < qc) (.slice Cc 0 r_c) ([])) ∧ Aside0 (Kd.R Kd.bool 4 w' w.heap.size (fun k_ => pg ≤ k_ ∧ k_ < qg) (.slice Ag l0.length cg) (gx)) ∧ Aside0 (w'.heap[g8]? = some (.cells #[.int .u64 b3,.slice Ac d3.length p_c,.slice Bc t3.length q_c,.slice Cc 0 r_c,.bool true,.bool ft3,.bool fc3] 27 (0,0))) ∧ Aside0 (w'.heap[g14]? = some (.cells #[.int .u64 off,.slice Mn m.length nn,.bool cf] 32 (0,0))) ∧ Aside0 (qc ≤ w'.heap.size) ∧ Aside0 (Below w.heap.size w w'))
     case atStart => exact ⟨0,g,rfl,⟨by have h_:=HGL.out;simp;omega⟩,HM,O_d_c,O_t_c,O_c_c,O_g,BK_g8,BK_g14,HS,HB⟩
     case round =>
     clear O_d_c O_t_c O_c_c O_g BK_g8 BK_g14 HS HB
     obtain ⟨j,gx,rfl,HJ,HM2,O_d_c,O_t_c,O_c_c,O_g,BK_g8,BK_g14,HS,HB⟩:=hrel
     cases gk with
     | zero =>
      have hm:=HM2.out
      rw [ends_mark] at hm
      obtain rfl:=Option.some.inj hm
      have HGX:=Aside0.mk (show gx.length = l0.length from HJ.out.2.2)
      have kj : decide (j < (m.length : Int)) = false:=decide_eq_false (by have h_:=HJ.out;omega)
      clear hm HM2 HJ
      have hx_g14_0 : wr.cell? ⟨g14,0,none⟩ = some (.int .u64 off):=(blk_cell BK_g14.out 0).trans rfl
      have hf_g14_0:=blk_frozen BK_g14.out 0
      have hx_g14_1 : wr.cell? ⟨g14,1,none⟩ = some (.slice Mn m.length nn):=(blk_cell BK_g14.out 1).trans rfl
      have hf_g14_1:=blk_frozen BK_g14.out 1
      have hx_g14_2 : wr.cell? ⟨g14,2,none⟩ = some (.bool cf):=(blk_cell BK_g14.out 2).trans rfl
      have hf_g14_2:=blk_frozen BK_g14.out 2
      go_wp2
      go_roundg k1
      case measure => omega
      case rel => exact ⟨wrap64 (i + 1),b3,d3,t3,ft3,fc3,cf,gx,_,_,_,rfl,rfl,⟨by have h2:=HI.out;have h3:=HGX.out;rw [hw];omega⟩,⟨by rw [HI2.out];exact HG.out⟩,⟨Kd.V_mono O_d_c.out (fun k_ hk_ => by have h_:=HCH.out;omega)⟩,⟨Kd.V_mono O_t_c.out (fun k_ hk_ => by have h_:=HCH.out;omega)⟩,⟨Kd.V_mono O_c_c.out (fun k_ hk_ => by have h_:=HCH.out;omega)⟩,O_g,BK_g8,⟨by have h_:=HCH.out;have h2_:=HS.out;omega⟩,HB⟩
     | succ k2 =>
      have hm:=HM2.out
      rw [ends_mark] at hm
      have hj : ((j.toNat : Nat) : Int) = j:=by have h_:=HJ.out;omega
      rw [hj] at hm
      by_cases c9 : 0 ≤ off + j ∧ off + j < (gx.length : Int) ∧ gx.getD (off + j).toNat true = false
      case neg => rw [if_neg c9] at hm;cases hm
      rw [if_pos c9] at hm
      obtain ⟨zp,hzp⟩ : ∃ y_ : Int,off + j = y_:=⟨_,rfl⟩
      rw [hzp] at hm c9
      have HM3:=Aside0.mk hm
      have hgl:=HJ.out.2.2
      have p_ : 0 ≤ zp:=c9.1
      have q_ : zp < ((l0.length : Nat) : Int):=by rw [← hgl];exact c9.2.1
      have hv_ : rdOf false gx zp = false:=by
       have h_:=c9.2.2
       have h2_:=c9.2.1
       show gx.getD zp.toNat false = false
       rw [List.getD_eq_getElem?_getD,List.getElem?_eq_getElem (show zp.toNat < gx.length by omega)] at h_ ⊢
       exact h_
      have kj : decide (j < (m.length : Int)) = true:=decide_eq_true (by have h_:=HJ.out;omega)
      have hwj : wrap64 (j + 1) = j + 1:=by have h2:=HJ.out;have h3:=HO.out;have h4:=HL.out;unfold wrap64;omega
      have HJ2:=Aside0.mk (show (wrap64 (j + 1)).toNat = j.toNat + 1 by rw [hwj];have h2:=HJ.out;omega)
      have u1_ : IntKind.u64.wrap j = j:=by rw [IntKind.wrap_u64];have h2:=HJ.out;have h3:=HO.out;have h4:=HL.out;omega
      have u2_ : IntKind.u64.wrap (off + j) = zp:=by rw [hzp,IntKind.wrap_u64];have h2:=HN.out;omega
      have u3_ : IntKind.u64.wrap (l0.length : Int) = (l0.length : Int):=by rw [IntKind.wrap_u64];have h2:=HN.out;omega
      have u4_ : decide (zp ≥ (l0.length : Int)) = false:=decide_eq_false (by omega)
      have u5_ : decide ((l0.length : Int) ≤ zp) = false:=decide_eq_false (by omega)
      obtain ⟨go,co,eo,gb,gl,cl,HG_⟩:=Kd.R_form O_g.out (by omega)
      injection eo with ea_ en_ ec_
      subst ea_ ec_
      clear en_ gl cl HG_
      have hgo:=O_g.out.1 go (by simp [Value.ownBlock])
      obtain ⟨hx_,hf_⟩:=Kd.R_celln false O_g.out zp p_ q_
      rw [hv_] at hx_
      have HP:=Kd.R_putg O_g.out zp true
      have GB:=Aside0.mk (show w.heap.size ≤ go by have h_:=HCH.out;omega)
      have HGO:=Aside0.mk hgo
      clear hgo gb hv_ c9 hm hj hzp hgl HM2
      replace p_:=eq_true p_
      replace q_:=eq_true q_
      have hx_g14_0 : wr.cell? ⟨g14,0,none⟩ = some (.int .u64 off):=(blk_cell BK_g14.out 0).trans rfl
      have hf_g14_0:=blk_frozen BK_g14.out 0
      have hx_g14_1 : wr.cell? ⟨g14,1,none⟩ = some (.slice Mn m.length nn):=(blk_cell BK_g14.out 1).trans rfl
      have hf_g14_1:=blk_frozen BK_g14.out 1
      have hx_g14_2 : wr.cell? ⟨g14,2,none⟩ = some (.bool cf):=(blk_cell BK_g14.out 2).trans rfl
      have hf_g14_2:=blk_frozen BK_g14.out 2
      go_wp2_with ((with_reducible refine gate_store (t:=4) (p:=99) rfl ?_);refine store_event (t:=4) (p:=99) (v:=?vo_24) (w1:=(wr.setCell ⟨go,zp.toNat,none⟩ (.bool true))) ?hg ?ho ?hn ?hr ?_;(case ho => rfl);(case hg => rfl);(case hn => rfl);(case hr => first | (go_simp;done) | (go_simp;rfl));intro ws hw_;have hg : wr.grownBy ws (some go):=(by rw [hw_];exact HP.2);have hp_ : Kd.R Kd.bool 4 ws w.heap.size (fun k_ => pg ≤ k_ ∧ k_ < qg) (.slice (some ⟨go,0,none⟩) l0.length cg) (gx.set zp.toNat true):=(by rw [hw_];exact HP.1);clear HP;clear hx_g14_0 hf_g14_0 hx_g14_1 hf_g14_1 hx_g14_2 hf_g14_2;have n109_:=Aside0.mk (blk_grown BK_g8.out hg (Kd.R_ne O_g.out BK_g8.out (by decide)));have n110_:=Aside0.mk (blk_grown BK_g14.out hg (Kd.R_ne O_g.out BK_g14.out (by decide)));have n111_:=Aside0.mk (Kd.V_grown O_d_c.out hg (fun k_ hk_ he_ => by injection he_ with he_;have h_:=HCH.out;have h2_:=HGO.out;omega));have n112_:=Aside0.mk (Kd.V_grown O_t_c.out hg (fun k_ hk_ he_ => by injection he_ with he_;have h_:=HCH.out;have h2_:=HGO.out;omega));have n113_:=Aside0.mk (Kd.V_grown O_c_c.out hg (fun k_ hk_ he_ => by injection he_ with he_;have h_:=HCH.out;have h2_:=HGO.out;omega));have n114_:=Aside0.mk ((by rw [hw_];exact below_set HB.out GB.out : Below w.heap.size w ws));have n115_:=Aside0.mk ((Nat.le_trans (show _ ≤ _ from HS.out) hg.size : qc ≤ ws.heap.size));clear BK_g8 BK_g14 O_d_c O_t_c O_c_c HB HS;have BK_g8:=n109_;have BK_g14:=n110_;have O_d_c:=n111_;have O_t_c:=n112_;have O_c_c:=n113_;have HB:=n114_;have HS:=n115_;clear n109_ n110_ n111_ n112_ n113_ n114_ n115_;replace O_g:=Aside0.mk hp_;clear hp_ hg hw_)
      go_roundg k2
      case measure => omega
      case rel => exact ⟨wrap64 (j + 1),_,(by first | rfl | simp only [hwj]),⟨by have h2:=HJ.out;rw [hwj,List.length_set];omega⟩,⟨by rw [HJ2.out];exact HM3.out⟩,O_d_c,O_t_c,O_c_c,O_g,BK_g8,BK_g14,HS,HB⟩

end Go.Proofs.Ytadhkamocbhbmaa.P
