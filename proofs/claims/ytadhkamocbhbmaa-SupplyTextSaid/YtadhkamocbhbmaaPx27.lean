-- Printed for this claim by xprint.py of this session: contracts of this session's own stand in for what the print does not take
import Derived.Test.YtadhkamocbhbmaaPx0
import Derived.Test.YtadhkamocbhbmaaPx4
import Derived.Test.YtadhkamocbhbmaaPx6
import Derived.Test.YtadhkamocbhbmaaPx7
import Derived.Test.YtadhkamocbhbmaaPx9
import Derived.Test.YtadhkamocbhbmaaPx12
import Derived.Test.YtadhkamocbhbmaaPx14
import Derived.Test.YtadhkamocbhbmaaPx16
import Derived.Test.YtadhkamocbhbmaaPx24
import Derived.Test.YtadhkamocbhbmaaPx26
namespace Go.Proofs.Ytadhkamocbhbmaa.P
open Go.RowKit Go.Proofs.YtadhkamocbhbmaaW.PrintWords Go.Proofs.YtadhkamocbhbmaaW.PrintLast Go.Proofs.YtadhkamocbhbmaaW.PrintMore
attribute [local go_sem] max2_int min2_int max_two min_two max_three min_three max_four min_four   -- for this text's walks alone
set_option linter.unusedVariables false
set_option linter.unusedSimpArgs false

/-! ### wigwaglaw18_SupplyText: function 6 -/
section
variable {α : Type} {d : Kd α} {e t base g k : Nat} {ok : Nat → Prop} {w W W1 : World} {v a0 a1 a2 a3 a4 a5 a6 : Value} {xs : List α} {cs : Array Value}
theorem text_size7 (hw : set7 W g a0 a1 a2 a3 a4 a5 a6 = W1) : W.heap.size = W1.heap.size:=by rw [← hw];simp [set7,World.setCell]
theorem text_size3 (hw : set3 W g a0 a1 a2 = W1) : W.heap.size = W1.heap.size:=by rw [← hw];simp [set3,World.setCell]
theorem text_V3o (hw : set3 W g a0 a1 a2 = W1) (hok : ∀ k,ok k → k ≠ g) (h : Kd.V d e W base ok v xs) : Kd.V d e W1 base ok v xs:=by
 rw [← hw]
 exact Kd.V_far (p:=⟨g,2,none⟩) (Kd.V_far (p:=⟨g,1,none⟩) (Kd.V_far (p:=⟨g,0,none⟩) h hok a0) hok a1) hok a2
theorem text_R3o (hw : set3 W g a0 a1 a2 = W1) (hok : ∀ k,ok k → k ≠ g) (h : Kd.R d e W base ok v xs) : Kd.R d e W1 base ok v xs:=by
 rw [← hw]
 exact Kd.R_far (p:=⟨g,2,none⟩) (Kd.R_far (p:=⟨g,1,none⟩) (Kd.R_far (p:=⟨g,0,none⟩) h hok a0) hok a1) hok a2
theorem text_V7o (hw : set7 W g a0 a1 a2 a3 a4 a5 a6 = W1) (hok : ∀ k,ok k → k ≠ g) (h : Kd.V d e W base ok v xs) : Kd.V d e W1 base ok v xs:=by
 rw [← hw]
 exact Kd.V_far (p:=⟨g,6,none⟩) (Kd.V_far (p:=⟨g,5,none⟩) (Kd.V_far (p:=⟨g,4,none⟩) (Kd.V_far (p:=⟨g,3,none⟩) (Kd.V_far (p:=⟨g,2,none⟩) (Kd.V_far (p:=⟨g,1,none⟩) (Kd.V_far (p:=⟨g,0,none⟩) h hok a0) hok a1) hok a2) hok a3) hok a4) hok a5) hok a6
theorem text_R7o (hw : set7 W g a0 a1 a2 a3 a4 a5 a6 = W1) (hok : ∀ k,ok k → k ≠ g) (h : Kd.R d e W base ok v xs) : Kd.R d e W1 base ok v xs:=by
 rw [← hw]
 exact Kd.R_far (p:=⟨g,6,none⟩) (Kd.R_far (p:=⟨g,5,none⟩) (Kd.R_far (p:=⟨g,4,none⟩) (Kd.R_far (p:=⟨g,3,none⟩) (Kd.R_far (p:=⟨g,2,none⟩) (Kd.R_far (p:=⟨g,1,none⟩) (Kd.R_far (p:=⟨g,0,none⟩) h hok a0) hok a1) hok a2) hok a3) hok a4) hok a5) hok a6
end
/-! A chunk: its place,its bytes,whether it is the last. -/
structure S32 where
 f0 : Int
 f1 : (List Int)
 f2 : Bool
def z32 : S32:=⟨(0 : Int),([] : List Int),false⟩
def k32 : Kd S32:=Kd.iso (Kd.pair (Kd.int .u64) (Kd.pair (Kd.slice 5 (Kd.int .u8)) Kd.bool)) (fun x : S32 => (x.f0,x.f1,x.f2))
theorem k32_open {w : World} {x : S32} {cs : List Value} (h : k32.K w x cs) : ∃ A1 c1,cs = [.int .u64 x.f0,.slice A1 x.f1.length c1,.bool x.f2] ∧ x.f1.length ≤ c1 ∧ (Kd.int .u8).C w A1 x.f1.length x.f1:=by
 obtain ⟨_,_,rfl,rfl,⟨_,_,rfl,⟨A1,c1,rfl,l1,g1⟩,rfl⟩⟩:=h
 exact ⟨A1,c1,rfl,l1,g1⟩
theorem k32_openM {w : World} {base : Nat} {ok : Nat → Prop} {x : S32} {cs : List Value} (h : k32.M w base ok x cs) : ∃ v1,cs = [.int .u64 x.f0,v1,.bool x.f2] ∧ (Kd.int .u8).R 5 w base ok v1 x.f1:=by
 obtain ⟨_,_,rfl,rfl,⟨_,_,rfl,⟨v1,rfl,g1⟩,rfl⟩⟩:=h
 exact ⟨v1,rfl,g1⟩
theorem k32_mk (w : World) (x : S32) {A1 : Option Addr} {c1 : Nat} (l1 : x.f1.length ≤ c1) (g1 : (Kd.int .u8).C w A1 x.f1.length x.f1) : k32.K w x [.int .u64 x.f0,.slice A1 x.f1.length c1,.bool x.f2]:=⟨[.int .u64 x.f0],[.slice A1 x.f1.length c1,.bool x.f2],rfl,rfl,⟨[.slice A1 x.f1.length c1],[.bool x.f2],rfl,⟨A1,c1,rfl,l1,g1⟩,rfl⟩⟩
theorem k32_mkM (w : World) (base : Nat) (ok : Nat → Prop) (x : S32) {v1 : Value} (g1 : (Kd.int .u8).R 5 w base ok v1 x.f1) : k32.M w base ok x [.int .u64 x.f0,v1,.bool x.f2]:=⟨[.int .u64 x.f0],[v1,.bool x.f2],rfl,rfl,⟨[v1],[.bool x.f2],rfl,⟨v1,rfl,g1⟩,rfl⟩⟩
theorem k32_openF {W : World} {ok : Nat → Prop} {x : S32} {cs : List Value} (h : Kd.FK k32 W ok x cs) : ∃ A1 c1,cs = [.int .u64 x.f0,.slice A1 x.f1.length c1,.bool x.f2] ∧ x.f1.length ≤ c1 ∧ Kd.F (Kd.int .u8) W ok A1 x.f1.length x.f1:=by
 obtain ⟨A1,c1,rfl,l1,_⟩:=k32_open (Kd.FK_now h)
 exact ⟨A1,c1,rfl,l1,(fun W' hW => by obtain ⟨A1_,c1_,he,l1_,g1_⟩:=k32_open (h W' hW);injection (Option.some.inj (show some (Value.slice A1 x.f1.length c1) = some (Value.slice A1_ x.f1.length c1_) from congrArg (fun l => l[1]?) he)) with ha_ _ _;rw [ha_];exact g1_)⟩
theorem k32_mkF (W : World) (ok : Nat → Prop) (x : S32) {A1 : Option Addr} {c1 : Nat} (l1 : x.f1.length ≤ c1) (g1 : Kd.F (Kd.int .u8) W ok A1 x.f1.length x.f1) : Kd.FK k32 W ok x [.int .u64 x.f0,.slice A1 x.f1.length c1,.bool x.f2]:=fun W2 hW => k32_mk W2 x l1 (g1 W2 hW)
def rd_T32 (xs : List S32) (i : Int) : S32:=xs.getD i.toNat z32
theorem at_T32 {w : World} {A : Option Addr} {n : Nat} {xs : List S32} (h : Kd.C k32 w A n xs) (i : Int) (h0 : 0 ≤ i) (h1 : i < n) : ∃ ad A1 c1,A = some ad ∧ w.cell? (ad.add (i.toNat * 3)) = some (.int .u64 (rd_T32 xs i).f0) ∧ w.cell? ⟨(ad.add (i.toNat * 3)).block,(ad.add (i.toNat * 3)).off + 1,none⟩ = some (.slice A1 (rd_T32 xs i).f1.length c1) ∧ w.cell? ⟨(ad.add (i.toNat * 3)).block,(ad.add (i.toNat * 3)).off + 2,none⟩ = some (.bool (rd_T32 xs i).f2) ∧ (rd_T32 xs i).f1.length ≤ c1 ∧ (Kd.int .u8).C w A1 (rd_T32 xs i).f1.length (rd_T32 xs i).f1:=by
 obtain ⟨ad,c,e,_,hK,hc0⟩:=Kd.C_get h z32 i h0 h1
 have hc : ∀ j u,c[j]? = some u → w.cell? (ad.add (i.toNat * 3 + j)) = some u:=hc0
 obtain ⟨A1,c1,rfl,l1,g1⟩:=k32_open hK
 exact ⟨ad,A1,c1,e,hc 0 _ rfl,by rw [← add_field _ _ 1 (by omega)];exact hc 1 _ rfl,by rw [← add_field _ _ 2 (by omega)];exact hc 2 _ rfl,l1,g1⟩
/-- Whether nothing is told next. -/
def text_none (size lim : Int) (t : List S37) (ft : Bool) : Bool:=if t.length = 0 then !ft else decide (size ≤ 0 ∨ mn (rd_T37 t 0).f1 lim ≤ (rd_T37 t 0).f0)
/-- A chunk: from a state with its base,what is told next,and what is left to be told. -/
def text_tell (size lim b : Int) (d : List Int) (t : List S37) (ft : Bool) : Option (Int × Int × List S37 × List Int × Bool) :=
 if t.length = 0 then (span_Cut.f t (b + (d.length : Int)) (b + (d.length : Int))).bind fun t2 => some (b + (d.length : Int),b + (d.length : Int),t2,[],ft)
 else if b ≤ (rd_T37 t 0).f0 ∧ (rd_T37 t 0).f0 ≤ mn (mn (rd_T37 t 0).f1 lim) (IntKind.u64.wrap ((rd_T37 t 0).f0 + IntKind.u64.wrap size)) ∧ mn (mn (rd_T37 t 0).f1 lim) (IntKind.u64.wrap ((rd_T37 t 0).f0 + IntKind.u64.wrap size)) ≤ b + (d.length : Int) then
  (span_Cut.f t (rd_T37 t 0).f0 (mn (mn (rd_T37 t 0).f1 lim) (IntKind.u64.wrap ((rd_T37 t 0).f0 + IntKind.u64.wrap size)))).bind fun t2 =>
   some ((rd_T37 t 0).f0,mn (mn (rd_T37 t 0).f1 lim) (IntKind.u64.wrap ((rd_T37 t 0).f0 + IntKind.u64.wrap size)),t2,(d.take (mn (mn (rd_T37 t 0).f1 lim) (IntKind.u64.wrap ((rd_T37 t 0).f0 + IntKind.u64.wrap size)) - b).toNat).drop ((rd_T37 t 0).f0 - b).toNat,(ft && (mn (mn (rd_T37 t 0).f1 lim) (IntKind.u64.wrap ((rd_T37 t 0).f0 + IntKind.u64.wrap size)) == b + (d.length : Int))))
 else none
/-- A chunk is as the text says. -/
def text_ok (p : List Int) (size lim off : Int) (m : List Int) (cf : Bool) : Prop :=
 0 ≤ off ∧ off + (m.length : Int) ≤ (p.length : Int) ∧ m = (p.take (off + (m.length : Int)).toNat).drop off.toNat ∧ (m.length : Int) ≤ mx size 0 ∧ (0 < m.length → off + (m.length : Int) ≤ lim) ∧ (cf = true → off + (m.length : Int) = (p.length : Int))
instance (p : List Int) (size lim off : Int) (m : List Int) (cf : Bool) : Decidable (text_ok p size lim off m cf):=by unfold text_ok;infer_instance
/-- None of its places came. -/
def text_free (k : Nat) (ca : List S37) (off : Int) (n : Nat) : Bool:=(List.range n).all (fun j => wigwagref07_Has.f k ca (off + (j : Int)) == some false)
/-- The moves. -/
def text_go (k : Nat) (p : List Int) (sc : List S48) : Nat → Nat → Int → List Int → List S37 → List S37 → Bool → Bool → Bool → List S32 → List S37 → Option Unit
 | 0,_,_,_,_,_,_,_,_,_,_ => some ()
 | n + 1,i,b,d,t,c,fi,ft,fc,se,ca =>
  if (i : Int) < (sc.length : Int) then
   if d.length < 1000000 ∧ t.length < 1000000 ∧ c.length < 1000000 ∧ 0 ≤ b ∧ b ≤ 1000000 ∧ se.length ≤ i ∧ ca.length < 1000000 then
    if (rd_T48 sc (i : Int)).f0 = 3 then
     if text_none (rd_T48 sc (i : Int)).f2 (rd_T48 sc (i : Int)).f3 t ft = true then text_go k p sc n (i + 1) b d t c fi ft fc se ca
     else (text_tell (rd_T48 sc (i : Int)).f2 (rd_T48 sc (i : Int)).f3 b d t ft).bind fun x =>
      if text_ok p (rd_T48 sc (i : Int)).f2 (rd_T48 sc (i : Int)).f3 x.1 x.2.2.2.1 x.2.2.2.2 then if text_free k ca x.1 x.2.2.2.1.length = true then text_go k p sc n (i + 1) b d x.2.2.1 c fi (ft && !x.2.2.2.2) fc (se ++ [⟨x.1,x.2.2.2.1,x.2.2.2.2⟩]) ca else none else none
    else if (rd_T48 sc (i : Int)).f4 < 0 ∨ (se.length : Int) ≤ (rd_T48 sc (i : Int)).f4 then text_go k p sc n (i + 1) b d t c fi ft fc se ca
    else if (rd_T48 sc (i : Int)).f0 = 4 then
     (supply_Lost.f k b d t c fi ft fc (rd_T32 se (rd_T48 sc (i : Int)).f4).f0 (rd_T32 se (rd_T48 sc (i : Int)).f4).f1 (rd_T32 se (rd_T48 sc (i : Int)).f4).f2).bind fun y => text_go k p sc n (i + 1) y.1 y.2.1 y.2.2.1 y.2.2.2.1 y.2.2.2.2.1 y.2.2.2.2.2.1 y.2.2.2.2.2.2 se ca
    else if (rd_T48 sc (i : Int)).f0 = 5 then
     (supply_Came.f k b d t c fi ft fc (rd_T32 se (rd_T48 sc (i : Int)).f4).f0 (rd_T32 se (rd_T48 sc (i : Int)).f4).f1 (rd_T32 se (rd_T48 sc (i : Int)).f4).f2).bind fun y =>
      if 0 ≤ (rd_T32 se (rd_T48 sc (i : Int)).f4).f0 ∧ (rd_T32 se (rd_T48 sc (i : Int)).f4).f0 + ((rd_T32 se (rd_T48 sc (i : Int)).f4).f1.length : Int) ≤ 1000000 then
       (wigwagref07_Add.f k ca (rd_T32 se (rd_T48 sc (i : Int)).f4).f0 ((rd_T32 se (rd_T48 sc (i : Int)).f4).f0 + ((rd_T32 se (rd_T48 sc (i : Int)).f4).f1.length : Int))).bind fun ca2 => text_go k p sc n (i + 1) y.1 y.2.1 y.2.2.1 y.2.2.2.1 y.2.2.2.2.1 y.2.2.2.2.2.1 y.2.2.2.2.2.2 se ca2
      else none
    else text_go k p sc n (i + 1) b d t c fi ft fc se ca
   else none
  else some ()
/-- The law: each chunk is the text's part at its place. -/
def wigwaglaw18_SupplyText.f (k : Nat) (l0 : List Int) (l1 : List S48) : Option Bool :=
 if (l0.length : Int) > 300 then some true else
 (span_Add.f k [] 0 (l0.length : Int)).bind fun t0 => if t0.length < 1000000 then (text_go k l0 l1 60 0 0 l0 t0 [] true true false [] []).bind fun _ => some true else none
theorem text_info : (Try.prog.info? 32).map (fun i => (i.zero,i.size,i.bytes)) = some (some (.agg #[.int .u64 0,.slice none 0 0,.bool false]),3,40):=by kernel_rfl
theorem text_write {p : List Int} {t1 : List S37} {k : Nat} (hT : span_Add.f k [] 0 (p.length : Int) = some t1) (h1 : p.length ≤ 300) : supply_Write.f k 0 [] [] [] false false false p = some (0,p,t1,[],false,false,false,0):=by
 unfold supply_Write.f
 rw [if_pos ⟨by simp,by simp,by simp,by decide,rfl,by simp;omega⟩]
 simp only [List.length_nil,Int.zero_add,Int.natCast_zero,List.nil_append,hT,Option.bind_some]
theorem text_nothing (b : Int) (A1 : Option Addr) (c1 : Nat) (d : List Int) (A2 : Option Addr) (c2 : Nat) (t : List S37) (A3 : Option Addr) (c3 : Nat) (c : List S37) (fi ft fc : Bool) (a1 a2 : Int) (w : World)
  (hr1 : Kd.C (Kd.int .u8) w A1 d.length d) (hc1 : d.length ≤ c1) (hr2 : Kd.C k37 w A2 t.length t) (hc2 : t.length ≤ c2) (hr3 : Kd.C k37 w A3 c.length c) (hc3 : c.length ≤ c3) (hL : d.length < 1000000 ∧ t.length < 1000000 ∧ c.length < 1000000 ∧ 0 ≤ b ∧ b ≤ 1000000) (h : text_none a1 a2 t ft = true) :
  Calls Try.prog 10 #[.agg #[.int .u64 b,.slice A1 d.length c1,.slice A2 t.length c2,.slice A3 c.length c3,.bool fi,.bool ft,.bool fc],.int .i64 a1,.int .u64 a2] w fun e w' => e = .returned (.tuple #[.agg #[.int .u64 b,.slice A1 d.length c1,.slice A2 t.length c2,.slice A3 c.length c3,.bool fi,.bool ft,.bool fc],.agg #[.int .u64 0,.slice none 0 0,.bool false],.bool false]) ∧ Below w.heap.size w w':=by
 have hL2 : d.length < 1000000000 ∧ t.length < 1000000000 ∧ c.length < 1000000000 ∧ 0 ≤ b ∧ b + (d.length : Int) ≤ 4611686018427387904:=⟨by omega,by omega,by omega,hL.2.2.2.1,by omega⟩
 unfold text_none at h
 by_cases q : t.length = 0
 ·rw [if_pos q] at h
  have hf : ft = false:=by cases ft <;> simp at h ⊢
  exact supply_Next.none0 b A1 c1 d A2 c2 t A3 c3 c fi ft fc a1 a2 w hr1 hc1 hr2 hc2 hr3 hc3 hL2 q hf
 ·rw [if_neg q] at h
  exact supply_Next.none1 b A1 c1 d A2 c2 t A3 c3 c fi ft fc a1 a2 w hr1 hc1 hr2 hc2 hr3 hc3 hL2 (by omega) (of_decide_eq_true h)
theorem text_next (b : Int) (A1 : Option Addr) (c1 : Nat) (d : List Int) (A2 : Option Addr) (c2 : Nat) (t : List S37) (A3 : Option Addr) (c3 : Nat) (c : List S37) (fi ft fc : Bool) (a1 a2 : Int) (off tz : Int) (t2 : List S37) (m : List Int) (cf : Bool) (w : World)
  (hr1 : Kd.C (Kd.int .u8) w A1 d.length d) (hc1 : d.length ≤ c1) (hr2 : Kd.C k37 w A2 t.length t) (hc2 : t.length ≤ c2) (hr3 : Kd.C k37 w A3 c.length c) (hc3 : c.length ≤ c3) (hL : d.length < 1000000 ∧ t.length < 1000000 ∧ c.length < 1000000 ∧ 0 ≤ b ∧ b ≤ 1000000) (hn : ¬ text_none a1 a2 t ft = true) (h : text_tell a1 a2 b d t ft = some (off,tz,t2,m,cf)) :
  Calls Try.prog 10 #[.agg #[.int .u64 b,.slice A1 d.length c1,.slice A2 t.length c2,.slice A3 c.length c3,.bool fi,.bool ft,.bool fc],.int .i64 a1,.int .u64 a2] w fun e w' => ∃ v1_ v2_ v3_ v8_ : Value,e = .returned (.tuple #[.agg #[.int .u64 b,v1_,v2_,v3_,.bool fi,.bool (ft && !cf),.bool fc],.agg #[.int .u64 off,v8_,.bool cf],.bool true]) ∧ Kd.R (Kd.int .u8) 5 w' w.heap.size (fun k_ => some k_ ≠ (v8_ : Value).ownBlock) v1_ d ∧ Kd.R k37 37 w' w.heap.size (fun k_ => some k_ ≠ (v8_ : Value).ownBlock) v2_ t2 ∧ Kd.R k37 37 w' w.heap.size (fun k_ => some k_ ≠ (v8_ : Value).ownBlock) v3_ c ∧ Kd.R (Kd.int .u8) 5 w' w.heap.size (fun _ => True) v8_ m ∧ Below w.heap.size w w':=by
 have hL2 : d.length < 1000000000 ∧ t.length < 1000000000 ∧ c.length < 1000000000 ∧ 0 ≤ b ∧ b + (d.length : Int) ≤ 4611686018427387904:=⟨by omega,by omega,by omega,hL.2.2.2.1,by omega⟩
 unfold text_tell at h
 unfold text_none at hn
 by_cases q : t.length = 0
 ·rw [if_pos q] at h hn
  have hf : ft = true:=by cases ft <;> simp at hn ⊢
  subst hf
  obtain ⟨x,hC,h⟩:=Option.bind_eq_some_iff.mp h
  simp only [Option.some.injEq,Prod.mk.injEq] at h
  obtain ⟨rfl,rfl,rfl,rfl,rfl⟩:=h
  exact supply_Next.end b A1 c1 d A2 c2 t A3 c3 c fi true fc a1 a2 _ _ d.length d.length true x [] w hr1 hc1 hr2 hc2 hr3 hc3 hL2 rfl q rfl rfl (by simp) hC (by omega) (by omega) (Nat.le_refl _) (Nat.le_refl _) (by simp)
 ·rw [if_neg q] at h hn
  have hn2 : ¬ (a1 ≤ 0 ∨ mn (rd_T37 t 0).f1 a2 ≤ (rd_T37 t 0).f0):=fun x => hn (decide_eq_true x)
  split at h
  case isFalse => cases h
  case isTrue c7 =>
   obtain ⟨x,hC,h⟩:=Option.bind_eq_some_iff.mp h
   simp only [Option.some.injEq,Prod.mk.injEq] at h
   obtain ⟨rfl,rfl,rfl,rfl,rfl⟩:=h
   exact supply_Next.part_ b A1 c1 d A2 c2 t A3 c3 c fi ft fc a1 a2 _ _ ((rd_T37 t 0).f0 - b).toNat (mn (mn (rd_T37 t 0).f1 a2) (IntKind.u64.wrap ((rd_T37 t 0).f0 + IntKind.u64.wrap a1)) - b).toNat _ x _ _ _ w hr1 hc1 hr2 hc2 hr3 hc3 hL2 (by omega) (by omega) rfl rfl (by omega) rfl rfl rfl hC (by omega) (by omega) (by omega) (by omega) rfl
section
variable {α : Type} {d : Kd α} {e t base g k : Nat} {ok : Nat → Prop} {w W W1 : World} {v a0 a1 a2 a3 a4 a5 a6 : Value} {xs : List α} {cs : Array Value}
theorem text_N3o (hw : set3 W g a0 a1 a2 = W1) (hok : ∀ k,ok k → k ≠ g) (h : Kd.N d e W base ok v xs) : Kd.N d e W1 base ok v xs:=by
 rw [← hw]
 exact Kd.N_far (p:=⟨g,2,none⟩) (Kd.N_far (p:=⟨g,1,none⟩) (Kd.N_far (p:=⟨g,0,none⟩) h hok a0) hok a1) hok a2
theorem text_N7o (hw : set7 W g a0 a1 a2 a3 a4 a5 a6 = W1) (hok : ∀ k,ok k → k ≠ g) (h : Kd.N d e W base ok v xs) : Kd.N d e W1 base ok v xs:=by
 rw [← hw]
 exact Kd.N_far (p:=⟨g,6,none⟩) (Kd.N_far (p:=⟨g,5,none⟩) (Kd.N_far (p:=⟨g,4,none⟩) (Kd.N_far (p:=⟨g,3,none⟩) (Kd.N_far (p:=⟨g,2,none⟩) (Kd.N_far (p:=⟨g,1,none⟩) (Kd.N_far (p:=⟨g,0,none⟩) h hok a0) hok a1) hok a2) hok a3) hok a4) hok a5) hok a6
end
/-- The first loop's body of a code. -/
def text_loop : Code → Option Code
 | .loop c => some c
 | .seq a b => match text_loop a with
  | some c => some c
  | none => text_loop b
 | .block _ c => text_loop c
 | .scope c => text_loop c
 | .cond _ a b => match text_loop a with
  | some c => some c
  | none => text_loop b
 | _ => none
set_option maxHeartbeats 8000000 in
set_option maxRecDepth 100000 in
theorem text_told (k : Nat) (A0 : Option Addr) (c0 : Nat) (l0 : List Int) (A1 : Option Addr) (c1 : Nat) (l1 : List S48) (w : World) (g6 pz k1 : Nat) (wr : World) (i b : Int) (d : List Int) (t c : List S37) (fi ft fc : Bool) (se : List S32) (ca : List S37) (Ax_s Ax_d Ax_t Ax_c Ax_a : Option Addr) (p_s p_d p_t p_c p_a : Nat) {u4 u11 u12 u13 u14 u15 u16 u17 u18 u19 u20 u21 u22 u23 u24 u25 u26 u27 u28 u29 u30 u31 u32 u33 u34 u35 u36 u37 u38 u39 u40 u41 u42 u43 u44 u45 u46 u47 u48 u49 u50 u51 u52 u53 u54 u55 u56 u57 u58 u59 u60 u61 u62 u63 u64 u65 u66 u67 u68 u69 u70 u71 u72 u73 u74 u75 u76 u77 u78 u79 u80 u81 u82 u83 u84 u85 u86 u87 u88 u89 u90 u91 u92 u93 u94 u95 u96 u97 u98 u99 u100 u101 u102 u103 u104 u105 u106 u107 u108 u109 u110 u111 u112 u113 u114 u115 u116 u117 u118 u119 u120 u121 u122 u123 u124 u125 u126 u127 u128 u129 u130 u131 u132 u133 u134 u135 u136 u137 u138 u139 u140 u141 u142 u143 u144 u145 u146 u147 u148 u149 u150 u151 u152 u153 u154 u155 u156 u157 u158 u159 u160 u161 u162 u163 u164 u165 u166 u167 u168 u169 u170 u171 u172 u173 u174 u175 u176 u177 u178 u179 u180 u181 u182 u183 u184 u185 u186 u187 u188 u189 u190 u191 u192 u193 u194 u195 : Value}
  (HR0 : Aside0 (Kd.C (Kd.int .u8) w A0 l0.length l0)) (HC0 : Aside0 (l0.length ≤ c0)) (HR1 : Aside0 (Kd.C k48 w A1 l1.length l1)) (HC1 : Aside0 (l1.length ≤ c1)) (HN : Aside0 (l0.length ≤ 300)) (GE_g6 : Aside0 (w.heap.size ≤ g6)) (HVS : Aside0 (∀ k_ : Nat,(.slice Ax_s se.length p_s : Value).ownBlock = some k_ → k_ < pz)) (O_d : Aside0 (Kd.V (Kd.int .u8) 5 wr w.heap.size (fun k_ => (k_ ≠ g6 ∧ some k_ ≠ (.slice Ax_s se.length p_s : Value).ownBlock) ∧ k_ < pz) (.slice Ax_d d.length p_d) (d))) (O_t : Aside0 (Kd.V k37 37 wr w.heap.size (fun k_ => (k_ ≠ g6 ∧ some k_ ≠ (.slice Ax_s se.length p_s : Value).ownBlock) ∧ k_ < pz) (.slice Ax_t t.length p_t) (t))) (O_c : Aside0 (Kd.V k37 37 wr w.heap.size (fun k_ => (k_ ≠ g6 ∧ some k_ ≠ (.slice Ax_s se.length p_s : Value).ownBlock) ∧ k_ < pz) (.slice Ax_c c.length p_c) (c))) (O_a : Aside0 (Kd.V k37 37 wr w.heap.size (fun k_ => (k_ ≠ g6 ∧ some k_ ≠ (.slice Ax_s se.length p_s : Value).ownBlock) ∧ k_ < pz) (.slice Ax_a ca.length p_a) (ca))) (O_s : Aside0 (Kd.N k32 32 wr w.heap.size (fun k_ => k_ ≠ g6 ∧ k_ < pz) (.slice Ax_s se.length p_s) (se))) (BK_g6 : Aside0 (wr.heap[g6]? = some (.cells #[.int .u64 b,.slice Ax_d d.length p_d,.slice Ax_t t.length p_t,.slice Ax_c c.length p_c,.bool fi,.bool ft,.bool fc] 27 (0,0)))) (HB : Aside0 (Below w.heap.size w wr)) (HCH : Aside0 (g6 < pz)) (HS : Aside0 (pz ≤ wr.heap.size)) (HI : Aside0 (0 ≤ i ∧ i + ((k1 + 1 : Nat) : Int) = 60)) (HQ : Aside0 (text_go k l0 l1 (k1 + 1) i.toNat b d t c fi ft fc se ca = some ())) (ci : i < (l1.length : Int)) (hkd : (rd_T48 l1 i).f0 = 3)
  (J : Nat → Act → World → Prop) (K K2 : Act → World → Prop) (R0 : Ending → World → Prop) (hK : ∀ (a' : Act) (w' : World),Handed J (k1 + 1) a' w' → K a' w')
  (hJ : ∀ (kq : Nat) (a' : Act) (w' : World),(∃ u4 u8 u9 u10 u11 u12 u13 u14 u15 u16 u17 u31 u32 u33 u34 u35 u36 u37 u38 u39 u40 u41 u42 u43 u44 u45 u46 u47 u48 u49 u50 u51 u52 u53 u54 u55 u56 u57 u58 u59 u60 u61 u62 u63 u64 u65 u66 u67 u68 u69 u70 u71 u72 u73 u74 u75 u76 u77 u78 u79 u80 u81 u82 u83 u84 u85 u86 u87 u88 u89 u90 u91 u92 u93 u94 u95 u96 u97 u98 u99 u100 u101 u102 u103 u104 u105 u106 u107 u108 u109 u110 u111 u112 u113 u114 u115 u116 u117 u118 u119 u120 u121 u122 u123 u124 u125 u126 u127 u128 u129 u130 u131 u132 u133 u134 u135 u136 u137 u138 u139 u140 u141 u142 u143 u144 u145 u146 u147 u148 u149 u150 u151 u152 u153 u154 u155 u156 u157 u158 u159 u160 u161 u162 u163 u164 u165 u166 u167 u168 u169 u170 u171 u172 u173 u174 u175 u176 u177 u178 u179 u180 u181 u182 u183 u184 u185 u186 u187 u188 u189 u190 u191 u192 u193 u194 u195 : Value,(∃ (i b : Int) (d : List Int) (t c : List S37) (fi ft fc : Bool) (se : List S32) (ca : List S37) (vd vt vc vs va : Value),vs = u8 ∧ va = u9 ∧ u10 = .int .i64 i ∧ Aside0 (0 ≤ i ∧ i + kq = 60) ∧ Aside0 (text_go k l0 l1 kq i.toNat b d t c fi ft fc se ca = some ()) ∧ Aside0 (Kd.V (Kd.int .u8) 5 w' w.heap.size (fun k_ => k_ ≠ g6 ∧ some k_ ≠ (vs : Value).ownBlock) (vd) (d)) ∧ Aside0 (Kd.V k37 37 w' w.heap.size (fun k_ => k_ ≠ g6 ∧ some k_ ≠ (vs : Value).ownBlock) (vt) (t)) ∧ Aside0 (Kd.V k37 37 w' w.heap.size (fun k_ => k_ ≠ g6 ∧ some k_ ≠ (vs : Value).ownBlock) (vc) (c)) ∧ Aside0 (Kd.V k37 37 w' w.heap.size (fun k_ => k_ ≠ g6 ∧ some k_ ≠ (vs : Value).ownBlock) (va) (ca)) ∧ Aside0 (Kd.N k32 32 w' w.heap.size (fun k_ => k_ ≠ g6) (vs) (se)) ∧ Aside0 (w'.heap[g6]? = some (.cells #[.int .u64 b,vd,vt,vc,.bool fi,.bool ft,.bool fc] 27 (0,0))) ∧ Aside0 (Below w.heap.size w w')) ∧ a' = ⟨#[.slice A0 l0.length c0,.slice A1 l1.length c1,undef,undef,u4,.bool true,.pointer (some ⟨g6,0,none⟩),.int .i64 0,u8,u9,u10,u11,u12,u13,u14,u15,u16,u17,u18,u19,u20,u21,u22,u23,u24,u25,u26,u27,u28,u29,u30,u31,u32,u33,u34,u35,u36,u37,u38,u39,u40,u41,u42,u43,u44,u45,u46,u47,u48,u49,u50,u51,u52,u53,u54,u55,u56,u57,u58,u59,u60,u61,u62,u63,u64,u65,u66,u67,u68,u69,u70,u71,u72,u73,u74,u75,u76,u77,u78,u79,u80,u81,u82,u83,u84,u85,u86,u87,u88,u89,u90,u91,u92,u93,u94,u95,u96,u97,u98,u99,u100,u101,u102,u103,u104,u105,u106,u107,u108,u109,u110,u111,u112,u113,u114,u115,u116,u117,u118,u119,u120,u121,u122,u123,u124,u125,u126,u127,u128,u129,u130,u131,u132,u133,u134,u135,u136,u137,u138,u139,u140,u141,u142,u143,u144,u145,u146,u147,u148,u149,u150,u151,u152,u153,u154,u155,u156,u157,u158,u159,u160,u161,u162,u163,u164,u165,u166,u167,u168,u169,u170,u171,u172,u173,u174,u175,u176,u177,u178,u179,u180,u181,u182,u183,u184,u185,u186,u187,u188,u189,u190,u191,u192,u193,u194,u195,undef,undef,undef,undef,undef],[]⟩) → J kq a' w') :
  Code.wp Try.prog ((Try.f6.body.bind text_loop).getD .skip) (Exit.then K (Exit.inBlock 0 (Exit.then K2 (bodyPost Try.prog Try.f6 R0)))) ⟨#[.slice A0 l0.length c0,.slice A1 l1.length c1,undef,undef,u4,.bool true,.pointer (some ⟨g6,0,none⟩),.int .i64 0,.slice Ax_s se.length p_s,.slice Ax_a ca.length p_a,.int .i64 i,u11,u12,u13,u14,u15,u16,u17,u18,u19,u20,u21,u22,u23,u24,u25,u26,u27,u28,u29,u30,u31,u32,u33,u34,u35,u36,u37,u38,u39,u40,u41,u42,u43,u44,u45,u46,u47,u48,u49,u50,u51,u52,u53,u54,u55,u56,u57,u58,u59,u60,u61,u62,u63,u64,u65,u66,u67,u68,u69,u70,u71,u72,u73,u74,u75,u76,u77,u78,u79,u80,u81,u82,u83,u84,u85,u86,u87,u88,u89,u90,u91,u92,u93,u94,u95,u96,u97,u98,u99,u100,u101,u102,u103,u104,u105,u106,u107,u108,u109,u110,u111,u112,u113,u114,u115,u116,u117,u118,u119,u120,u121,u122,u123,u124,u125,u126,u127,u128,u129,u130,u131,u132,u133,u134,u135,u136,u137,u138,u139,u140,u141,u142,u143,u144,u145,u146,u147,u148,u149,u150,u151,u152,u153,u154,u155,u156,u157,u158,u159,u160,u161,u162,u163,u164,u165,u166,u167,u168,u169,u170,u171,u172,u173,u174,u175,u176,u177,u178,u179,u180,u181,u182,u183,u184,u185,u186,u187,u188,u189,u190,u191,u192,u193,u194,u195,undef,undef,undef,undef,undef],[]⟩ wr:=by
 conv => arg 2;whnf
 have kt : decide (i < 60) = true:=decide_eq_true (by have h_:=HI.out;omega)
 have cb1 : decide (i < (l1.length : Int)) = true:=decide_eq_true ci
 have hq:=HQ.out
 have p0_ : 0 ≤ i:=HI.out.1
 have hi2 : ((i.toNat : Nat) : Int) = i:=by omega
 rw [text_go,hi2,if_pos ci] at hq
 by_cases c5 : d.length < 1000000 ∧ t.length < 1000000 ∧ c.length < 1000000 ∧ 0 ≤ b ∧ b ≤ 1000000 ∧ se.length ≤ i.toNat ∧ ca.length < 1000000
 case neg => rw [if_neg c5] at hq;cases hq
 rw [if_pos c5] at hq
 have HL:=Aside0.mk (show d.length < 1000000 ∧ t.length < 1000000 ∧ c.length < 1000000 ∧ 0 ≤ b ∧ b ≤ 1000000 from ⟨c5.1,c5.2.1,c5.2.2.1,c5.2.2.2.1,c5.2.2.2.2.1⟩)
 have HL2:=Aside0.mk c5.2.2.2.2.2
 have hw : wrap64 (i + 1) = i + 1:=by have h2:=HI.out;unfold wrap64;omega
 have HI2:=Aside0.mk (show (wrap64 (i + 1)).toNat = i.toNat + 1 by rw [hw];have h2:=HI.out;omega)
 obtain ⟨ad,Aq,cq,e_,hx0,hx1,hx2,hx3,hx4,hx5,hx6,hxl,hxC⟩:=at_T48 HR1.out i p0_ ci
 subst e_
 obtain ⟨cl,hcl⟩ : ∃ y_ : S48,rd_T48 l1 i = y_:=⟨_,rfl⟩
 rw [hcl] at hx0 hx1 hx2 hx3 hx4 hx5 hx6 hq hkd
 obtain ⟨kd,fd,sz,lm,nn,fo,ff⟩:=cl
 dsimp only at hx0 hx1 hx2 hx3 hx4 hx5 hx6 hq hkd
 have HKD:=Aside0.mk hkd
 clear hkd
 have HQ:=Aside0.mk hq
 have qi1 : (0 ≤ i) = True:=eq_true p0_
 have qi2 : (i < (l1.length : Int)) = True:=eq_true ci
 clear hq hxl hxC hcl c5 hi2 ci p0_
 replace hx0:=(HB.out.cell (World.block_lt_of_cell? w _ hx0)).trans hx0
 replace hx1:=(HB.out.cell (World.block_lt_of_cell? w _ hx1)).trans hx1
 replace hx2:=(HB.out.cell (World.block_lt_of_cell? w _ hx2)).trans hx2
 replace hx3:=(HB.out.cell (World.block_lt_of_cell? w _ hx3)).trans hx3
 replace hx4:=(HB.out.cell (World.block_lt_of_cell? w _ hx4)).trans hx4
 replace hx5:=(HB.out.cell (World.block_lt_of_cell? w _ hx5)).trans hx5
 replace hx6:=(HB.out.cell (World.block_lt_of_cell? w _ hx6)).trans hx6
 go_upto_region 12 with (first
  | ((with_reducible refine gate_dst (N:=11) rfl ?_);refine box_event ?hg (N:=11) ?hd (cs:=#[.int .i64 0,.slice none 0 0,.int .i64 0,.int .u64 0,.int .i64 0,.int .u64 0,.bool false]) (t:=48) ?hr ?_;(case hd => rfl);(case hg => rfl);(case hr => first | (go_simp;done) | (go_simp;rfl));intro g11 hg w11 hbox hb;have GE_g11:=Aside0.mk (show w.heap.size ≤ g11 by rw [hg];exact HB.out.size);have NB_g6_g11 : g6 ≠ g11:=(by rw [hg];exact Nat.ne_of_lt (blk_lt BK_g6.out));have NB_g11_g6:=NB_g6_g11.symm;replace HCH:=Aside0.mk (And.intro HCH.out (show pz ≤ g11 by rw [hg];exact HS.out));have n28_:=Aside0.mk (below_step HB.out hb);have n29_:=Aside0.mk ((Nat.le_trans (show _ ≤ _ from HS.out) hb.size : pz ≤ w11.heap.size));have n30_:=Aside0.mk (blk_below BK_g6.out hb);have n31_:=Aside0.mk (Kd.V_below O_d.out hb);have n32_:=Aside0.mk (Kd.V_below O_t.out hb);have n33_:=Aside0.mk (Kd.V_below O_c.out hb);have n34_:=Aside0.mk (Kd.V_below O_a.out hb);have n35_:=Aside0.mk (Kd.N_below O_s.out hb);clear HB HS BK_g6 O_d O_t O_c O_a O_s;have HB:=n28_;have HS:=n29_;have BK_g6:=n30_;have O_d:=n31_;have O_t:=n32_;have O_c:=n33_;have O_a:=n34_;have O_s:=n35_;clear n28_ n29_ n30_ n31_ n32_ n33_ n34_ n35_;replace HS:=Aside0.mk (show g11 < w11.heap.size from blk_lt hbox);have BK_g11:=Aside0.mk hbox;clear hbox hb hg;obtain ⟨hx_g11_0,hf_g11_0,hx_g11_1,hf_g11_1,hx_g11_2,hf_g11_2,hx_g11_3,hf_g11_3,hx_g11_4,hf_g11_4,hx_g11_5,hf_g11_5,hx_g11_6,hf_g11_6⟩:=cells7 BK_g11.out))
 clear hx0 hx1 hx2 hx3 hx4 hx5 hx6 qi1 qi2
 clear hx_g11_0 hf_g11_0 hx_g11_1 hf_g11_1 hx_g11_2 hf_g11_2 hx_g11_3 hf_g11_3 hx_g11_4 hf_g11_4 hx_g11_5 hf_g11_5 hx_g11_6 hf_g11_6
 obtain ⟨w12,hw36_⟩ : ∃ w_ : World,set7 w11 g11 (.int .i64 kd) (.slice Aq fd.length cq) (.int .i64 sz) (.int .u64 lm) (.int .i64 nn) (.int .u64 fo) (.bool ff) = w_:=⟨_,rfl⟩
 have n37_:=Aside0.mk (blk7 hw36_ BK_g11.out)
 have n38_:=Aside0.mk (far7 hw36_ NB_g6_g11 BK_g6.out)
 have n39_:=Aside0.mk (text_V7o hw36_ (fun k_ hk_ => by have h_:=HCH.out;omega) O_d.out)
 have n40_:=Aside0.mk (text_V7o hw36_ (fun k_ hk_ => by have h_:=HCH.out;omega) O_t.out)
 have n41_:=Aside0.mk (text_V7o hw36_ (fun k_ hk_ => by have h_:=HCH.out;omega) O_c.out)
 have n42_:=Aside0.mk (text_V7o hw36_ (fun k_ hk_ => by have h_:=HCH.out;omega) O_a.out)
 have n43_:=Aside0.mk (text_N7o hw36_ (fun k_ hk_ => by have h_:=HCH.out;omega) O_s.out)
 have n44_:=Aside0.mk (below7 hw36_ GE_g11.out HB.out)
 have n45_:=Aside0.mk ((text_size7 hw36_).symm ▸ HS.out)
 rw [set7_fold,hw36_]
 clear hw36_ BK_g11 BK_g6 O_d O_t O_c O_a O_s HB HS
 have BK_g11:=n37_
 have BK_g6:=n38_
 have O_d:=n39_
 have O_t:=n40_
 have O_c:=n41_
 have O_a:=n42_
 have O_s:=n43_
 have HB:=n44_
 have HS:=n45_
 clear n37_ n38_ n39_ n40_ n41_ n42_ n43_ n44_ n45_
 have hkd:=HKD.out
 clear HKD
 subst hkd
 have hq:=HQ.out
 rw [if_pos rfl] at hq
 clear HQ
 by_cases cn : text_none sz lm t ft = true
 case pos =>
  rw [if_pos cn] at hq
  have HQ:=Aside0.mk hq
  have HNO:=Aside0.mk cn
  clear hq cn
  obtain ⟨hx_g6_0,hf_g6_0,hx_g6_1,hf_g6_1,hx_g6_2,hf_g6_2,hx_g6_3,hf_g6_3,hx_g6_4,hf_g6_4,hx_g6_5,hf_g6_5,hx_g6_6,hf_g6_6⟩:=cells7 BK_g6.out
  obtain ⟨hx_g11_0,hf_g11_0,hx_g11_1,hf_g11_1,hx_g11_2,hf_g11_2,hx_g11_3,hf_g11_3,hx_g11_4,hf_g11_4,hx_g11_5,hf_g11_5,hx_g11_6,hf_g11_6⟩:=cells7 BK_g11.out
  go_upto_region 14 with (first
   | ((with_reducible refine gate_callee (f:=10) rfl ?_);refine goesL_ (some 54) rfl rfl Try.func10 (by kernel_rfl) rfl #[.agg #[.int .u64 b,.slice Ax_d d.length p_d,.slice Ax_t t.length p_t,.slice Ax_c c.length p_c,.bool fi,.bool ft,.bool fc],.int .i64 sz,.int .u64 lm] rfl (by (try simp only [List.map_toArray,List.map_cons,List.map_nil]);first | done | rfl) ?_;refine (text_nothing b _ _ d _ _ t _ _ c fi ft fc sz lm _ (Kd.V_reads' O_d.out).2.2 (Kd.V_reads' O_d.out).2.1 (Kd.V_reads' O_t.out).2.2 (Kd.V_reads' O_t.out).2.1 (Kd.V_reads' O_c.out).2.2 (Kd.V_reads' O_c.out).2.1 HL.out HNO.out).mono ?_;rintro e_ w13 ⟨rfl,hb⟩;refine ⟨_,rfl,?_⟩;clear hx_g6_0 hf_g6_0 hx_g6_1 hf_g6_1 hx_g6_2 hf_g6_2 hx_g6_3 hf_g6_3 hx_g6_4 hf_g6_4 hx_g6_5 hf_g6_5 hx_g6_6 hf_g6_6 hx_g11_0 hf_g11_0 hx_g11_1 hf_g11_1 hx_g11_2 hf_g11_2 hx_g11_3 hf_g11_3 hx_g11_4 hf_g11_4 hx_g11_5 hf_g11_5 hx_g11_6 hf_g11_6;have n46_:=Aside0.mk (below_step HB.out hb);have n47_:=Aside0.mk ((Nat.lt_of_lt_of_le (show _ < _ from HS.out) hb.size : g11 < w13.heap.size));have n48_:=Aside0.mk (blk_below BK_g6.out hb);have n49_:=Aside0.mk (blk_below BK_g11.out hb);have n50_:=Aside0.mk (Kd.V_below O_d.out hb);have n51_:=Aside0.mk (Kd.V_below O_t.out hb);have n52_:=Aside0.mk (Kd.V_below O_c.out hb);have n53_:=Aside0.mk (Kd.V_below O_a.out hb);have n54_:=Aside0.mk (Kd.N_below O_s.out hb);clear HB HS BK_g6 BK_g11 O_d O_t O_c O_a O_s;have HB:=n46_;have HS:=n47_;have BK_g6:=n48_;have BK_g11:=n49_;have O_d:=n50_;have O_t:=n51_;have O_c:=n52_;have O_a:=n53_;have O_s:=n54_;clear n46_ n47_ n48_ n49_ n50_ n51_ n52_ n53_ n54_;clear hb)
   | ((with_reducible refine gate_dst (N:=12) rfl ?_);refine box_event ?hg (N:=12) ?hd (cs:=#[.int .u64 0,.slice none 0 0,.slice none 0 0,.slice none 0 0,.bool false,.bool false,.bool false]) (t:=27) ?hr ?_;(case hd => rfl);(case hg => rfl);(case hr => first | (go_simp;done) | (go_simp;rfl));intro g12 hg w14 hbox hb;have GE_g12:=Aside0.mk (show w.heap.size ≤ g12 by rw [hg];exact HB.out.size);have NB_g6_g12 : g6 ≠ g12:=(by rw [hg];exact Nat.ne_of_lt (blk_lt BK_g6.out));have NB_g12_g6:=NB_g6_g12.symm;have NB_g11_g12 : g11 ≠ g12:=(by rw [hg];exact Nat.ne_of_lt (blk_lt BK_g11.out));have NB_g12_g11:=NB_g11_g12.symm;replace HCH:=Aside0.mk (And.intro HCH.out (show g11 < g12 by rw [hg];exact HS.out));have n55_:=Aside0.mk (below_step HB.out hb);have n56_:=Aside0.mk ((Nat.lt_of_lt_of_le (show _ < _ from HS.out) hb.size : g11 < w14.heap.size));have n57_:=Aside0.mk (blk_below BK_g6.out hb);have n58_:=Aside0.mk (blk_below BK_g11.out hb);have n59_:=Aside0.mk (Kd.V_below O_d.out hb);have n60_:=Aside0.mk (Kd.V_below O_t.out hb);have n61_:=Aside0.mk (Kd.V_below O_c.out hb);have n62_:=Aside0.mk (Kd.V_below O_a.out hb);have n63_:=Aside0.mk (Kd.N_below O_s.out hb);clear HB HS BK_g6 BK_g11 O_d O_t O_c O_a O_s;have HB:=n55_;have HS:=n56_;have BK_g6:=n57_;have BK_g11:=n58_;have O_d:=n59_;have O_t:=n60_;have O_c:=n61_;have O_a:=n62_;have O_s:=n63_;clear n55_ n56_ n57_ n58_ n59_ n60_ n61_ n62_ n63_;replace HS:=Aside0.mk (show g12 < w14.heap.size from blk_lt hbox);have BK_g12:=Aside0.mk hbox;clear hbox hb hg)
   | ((with_reducible refine gate_dst (N:=13) rfl ?_);refine box_event ?hg (N:=13) ?hd (cs:=#[.int .u64 0,.slice none 0 0,.bool false]) (t:=32) ?hr ?_;(case hd => rfl);(case hg => rfl);(case hr => first | (go_simp;done) | (go_simp;rfl));intro g13 hg w15 hbox hb;have GE_g13:=Aside0.mk (show w.heap.size ≤ g13 by rw [hg];exact HB.out.size);have NB_g6_g13 : g6 ≠ g13:=(by rw [hg];exact Nat.ne_of_lt (blk_lt BK_g6.out));have NB_g13_g6:=NB_g6_g13.symm;have NB_g11_g13 : g11 ≠ g13:=(by rw [hg];exact Nat.ne_of_lt (blk_lt BK_g11.out));have NB_g13_g11:=NB_g11_g13.symm;have NB_g12_g13 : g12 ≠ g13:=(by rw [hg];exact Nat.ne_of_lt (blk_lt BK_g12.out));have NB_g13_g12:=NB_g12_g13.symm;replace HCH:=Aside0.mk (And.intro HCH.out (show g12 < g13 by rw [hg];exact HS.out));have n64_:=Aside0.mk (below_step HB.out hb);have n65_:=Aside0.mk ((Nat.lt_of_lt_of_le (show _ < _ from HS.out) hb.size : g12 < w15.heap.size));have n66_:=Aside0.mk (blk_below BK_g6.out hb);have n67_:=Aside0.mk (blk_below BK_g11.out hb);have n68_:=Aside0.mk (blk_below BK_g12.out hb);have n69_:=Aside0.mk (Kd.V_below O_d.out hb);have n70_:=Aside0.mk (Kd.V_below O_t.out hb);have n71_:=Aside0.mk (Kd.V_below O_c.out hb);have n72_:=Aside0.mk (Kd.V_below O_a.out hb);have n73_:=Aside0.mk (Kd.N_below O_s.out hb);clear HB HS BK_g6 BK_g11 BK_g12 O_d O_t O_c O_a O_s;have HB:=n64_;have HS:=n65_;have BK_g6:=n66_;have BK_g11:=n67_;have BK_g12:=n68_;have O_d:=n69_;have O_t:=n70_;have O_c:=n71_;have O_a:=n72_;have O_s:=n73_;clear n64_ n65_ n66_ n67_ n68_ n69_ n70_ n71_ n72_ n73_;replace HS:=Aside0.mk (show g13 < w15.heap.size from blk_lt hbox);have BK_g13:=Aside0.mk hbox;clear hbox hb hg;obtain ⟨hx_g12_0,hf_g12_0,hx_g12_1,hf_g12_1,hx_g12_2,hf_g12_2,hx_g12_3,hf_g12_3,hx_g12_4,hf_g12_4,hx_g12_5,hf_g12_5,hx_g12_6,hf_g12_6⟩:=cells7 BK_g12.out;obtain ⟨hx_g13_0,hf_g13_0,hx_g13_1,hf_g13_1,hx_g13_2,hf_g13_2⟩:=cells3 BK_g13.out))
  clear hx_g12_0 hf_g12_0 hx_g12_1 hf_g12_1 hx_g12_2 hf_g12_2 hx_g12_3 hf_g12_3 hx_g12_4 hf_g12_4 hx_g12_5 hf_g12_5 hx_g12_6 hf_g12_6 hx_g13_0 hf_g13_0 hx_g13_1 hf_g13_1 hx_g13_2 hf_g13_2
  obtain ⟨w16,hw74_⟩ : ∃ w_ : World,set7 w15 g12 (.int .u64 b) (.slice Ax_d d.length p_d) (.slice Ax_t t.length p_t) (.slice Ax_c c.length p_c) (.bool fi) (.bool ft) (.bool fc) = w_:=⟨_,rfl⟩
  have n75_:=Aside0.mk (blk7 hw74_ BK_g12.out)
  have n76_:=Aside0.mk (far7 hw74_ NB_g6_g12 BK_g6.out)
  have n77_:=Aside0.mk (far7 hw74_ NB_g11_g12 BK_g11.out)
  have n78_:=Aside0.mk (far7 hw74_ NB_g13_g12 BK_g13.out)
  have n79_:=Aside0.mk (text_V7o hw74_ (fun k_ hk_ => by have h_:=HCH.out;omega) O_d.out)
  have n80_:=Aside0.mk (text_V7o hw74_ (fun k_ hk_ => by have h_:=HCH.out;omega) O_t.out)
  have n81_:=Aside0.mk (text_V7o hw74_ (fun k_ hk_ => by have h_:=HCH.out;omega) O_c.out)
  have n82_:=Aside0.mk (text_V7o hw74_ (fun k_ hk_ => by have h_:=HCH.out;omega) O_a.out)
  have n83_:=Aside0.mk (text_N7o hw74_ (fun k_ hk_ => by have h_:=HCH.out;omega) O_s.out)
  have n84_:=Aside0.mk (below7 hw74_ GE_g12.out HB.out)
  have n85_:=Aside0.mk ((text_size7 hw74_).symm ▸ HS.out)
  rw [set7_fold,hw74_]
  clear hw74_ BK_g12 BK_g6 BK_g11 BK_g13 O_d O_t O_c O_a O_s HB HS
  have BK_g12:=n75_
  have BK_g6:=n76_
  have BK_g11:=n77_
  have BK_g13:=n78_
  have O_d:=n79_
  have O_t:=n80_
  have O_c:=n81_
  have O_a:=n82_
  have O_s:=n83_
  have HB:=n84_
  have HS:=n85_
  clear n75_ n76_ n77_ n78_ n79_ n80_ n81_ n82_ n83_ n84_ n85_
  obtain ⟨w17,hw86_⟩ : ∃ w_ : World,set3 w16 g13 (.int .u64 0) (.slice none 0 0) (.bool false) = w_:=⟨_,rfl⟩
  have n87_:=Aside0.mk (blk3 hw86_ BK_g13.out)
  have n88_:=Aside0.mk (far3 hw86_ NB_g6_g13 BK_g6.out)
  have n89_:=Aside0.mk (far3 hw86_ NB_g11_g13 BK_g11.out)
  have n90_:=Aside0.mk (far3 hw86_ NB_g12_g13 BK_g12.out)
  have n91_:=Aside0.mk (text_V3o hw86_ (fun k_ hk_ => by have h_:=HCH.out;omega) O_d.out)
  have n92_:=Aside0.mk (text_V3o hw86_ (fun k_ hk_ => by have h_:=HCH.out;omega) O_t.out)
  have n93_:=Aside0.mk (text_V3o hw86_ (fun k_ hk_ => by have h_:=HCH.out;omega) O_c.out)
  have n94_:=Aside0.mk (text_V3o hw86_ (fun k_ hk_ => by have h_:=HCH.out;omega) O_a.out)
  have n95_:=Aside0.mk (text_N3o hw86_ (fun k_ hk_ => by have h_:=HCH.out;omega) O_s.out)
  have n96_:=Aside0.mk (below3 hw86_ GE_g13.out HB.out)
  have n97_:=Aside0.mk ((text_size3 hw86_).symm ▸ HS.out)
  rw [set3_fold,hw86_]
  clear hw86_ BK_g13 BK_g6 BK_g11 BK_g12 O_d O_t O_c O_a O_s HB HS
  have BK_g13:=n87_
  have BK_g6:=n88_
  have BK_g11:=n89_
  have BK_g12:=n90_
  have O_d:=n91_
  have O_t:=n92_
  have O_c:=n93_
  have O_a:=n94_
  have O_s:=n95_
  have HB:=n96_
  have HS:=n97_
  clear n87_ n88_ n89_ n90_ n91_ n92_ n93_ n94_ n95_ n96_ n97_
  obtain ⟨hx_g12_0,hf_g12_0,hx_g12_1,hf_g12_1,hx_g12_2,hf_g12_2,hx_g12_3,hf_g12_3,hx_g12_4,hf_g12_4,hx_g12_5,hf_g12_5,hx_g12_6,hf_g12_6⟩:=cells7 BK_g12.out
  obtain ⟨hx_g6_0,hf_g6_0,hx_g6_1,hf_g6_1,hx_g6_2,hf_g6_2,hx_g6_3,hf_g6_3,hx_g6_4,hf_g6_4,hx_g6_5,hf_g6_5,hx_g6_6,hf_g6_6⟩:=cells7 BK_g6.out
  go_upto_region 15 with fail
  clear hx_g12_0 hf_g12_0 hx_g12_1 hf_g12_1 hx_g12_2 hf_g12_2 hx_g12_3 hf_g12_3 hx_g12_4 hf_g12_4 hx_g12_5 hf_g12_5 hx_g12_6 hf_g12_6 hx_g6_0 hf_g6_0 hx_g6_1 hf_g6_1 hx_g6_2 hf_g6_2 hx_g6_3 hf_g6_3 hx_g6_4 hf_g6_4 hx_g6_5 hf_g6_5 hx_g6_6 hf_g6_6
  obtain ⟨w18,hw98_⟩ : ∃ w_ : World,set7 w17 g6 (.int .u64 b) (.slice Ax_d d.length p_d) (.slice Ax_t t.length p_t) (.slice Ax_c c.length p_c) (.bool fi) (.bool ft) (.bool fc) = w_:=⟨_,rfl⟩
  have n99_:=Aside0.mk (blk7 hw98_ BK_g6.out)
  have n100_:=Aside0.mk (far7 hw98_ NB_g11_g6 BK_g11.out)
  have n101_:=Aside0.mk (far7 hw98_ NB_g12_g6 BK_g12.out)
  have n102_:=Aside0.mk (far7 hw98_ NB_g13_g6 BK_g13.out)
  have n103_:=Aside0.mk (text_V7o hw98_ (fun k_ hk_ => by have h_:=HCH.out;omega) O_d.out)
  have n104_:=Aside0.mk (text_V7o hw98_ (fun k_ hk_ => by have h_:=HCH.out;omega) O_t.out)
  have n105_:=Aside0.mk (text_V7o hw98_ (fun k_ hk_ => by have h_:=HCH.out;omega) O_c.out)
  have n106_:=Aside0.mk (text_V7o hw98_ (fun k_ hk_ => by have h_:=HCH.out;omega) O_a.out)
  have n107_:=Aside0.mk (text_N7o hw98_ (fun k_ hk_ => by have h_:=HCH.out;omega) O_s.out)
  have n108_:=Aside0.mk (below7 hw98_ GE_g6.out HB.out)
  have n109_:=Aside0.mk ((text_size7 hw98_).symm ▸ HS.out)
  rw [set7_fold,hw98_]
  clear hw98_ BK_g6 BK_g11 BK_g12 BK_g13 O_d O_t O_c O_a O_s HB HS
  have BK_g6:=n99_
  have BK_g11:=n100_
  have BK_g12:=n101_
  have BK_g13:=n102_
  have O_d:=n103_
  have O_t:=n104_
  have O_c:=n105_
  have O_a:=n106_
  have O_s:=n107_
  have HB:=n108_
  have HS:=n109_
  clear n99_ n100_ n101_ n102_ n103_ n104_ n105_ n106_ n107_ n108_ n109_
  go_wp2
  go_roundg k1
  case measure => omega
  case rel => exact ⟨wrap64 (i + 1),b,d,t,c,fi,ft,fc,se,ca,_,_,_,_,_,rfl,rfl,(by first | rfl | simp only [hw]),⟨by have h2:=HI.out;rw [hw];omega⟩,⟨by rw [HI2.out];exact HQ.out⟩,⟨Kd.V_mono O_d.out (fun k_ hk_ => hk_.1)⟩,⟨Kd.V_mono O_t.out (fun k_ hk_ => hk_.1)⟩,⟨Kd.V_mono O_c.out (fun k_ hk_ => hk_.1)⟩,⟨Kd.V_mono O_a.out (fun k_ hk_ => hk_.1)⟩,⟨Kd.N_mono O_s.out (fun k_ hk_ => hk_.1)⟩,BK_g6,HB⟩
 case neg =>
  rw [if_neg cn] at hq
  replace hq:=Option.bind_eq_some_iff.mp hq
  obtain ⟨⟨off,tz,t2,m,cf⟩,hx,hq⟩:=hq
  dsimp only at hq
  by_cases cok : text_ok l0 sz lm off m cf
  case neg => rw [if_neg cok] at hq;cases hq
  rw [if_pos cok] at hq
  by_cases cfr : text_free k ca off m.length = true
  case neg => rw [if_neg cfr] at hq;cases hq
  rw [if_pos cfr] at hq
  have HNO:=Aside0.mk cn
  have HX:=Aside0.mk hx
  have HOK:=Aside0.mk (show 0 ≤ off ∧ off + (m.length : Int) ≤ (l0.length : Int) ∧ m = (l0.take (off + (m.length : Int)).toNat).drop off.toNat ∧ (m.length : Int) ≤ mx sz 0 ∧ (0 < m.length → off + (m.length : Int) ≤ lm) ∧ (cf = true → off + (m.length : Int) = (l0.length : Int)) from cok)
  have HFR:=Aside0.mk (show ∀ j : Nat,j < m.length → wigwagref07_Has.f k ca (off + (j : Int)) = some false from fun j hj => by have h_:=List.all_eq_true.mp cfr j (List.mem_range.mpr hj);exact beq_iff_eq.mp h_)
  obtain ⟨f5,hf5⟩ : ∃ y_ : Bool,(ft && !cf) = y_:=⟨_,rfl⟩
  rw [hf5] at hq
  have HF5:=Aside0.mk hf5
  obtain ⟨se2,hse2⟩ : ∃ y_ : List S32,se ++ [⟨off,m,cf⟩] = y_:=⟨_,rfl⟩
  rw [hse2] at hq
  have HSE2:=Aside0.mk hse2
  have HQ:=Aside0.mk hq
  clear hq hx hf5 hse2 cok cfr cn
  obtain ⟨hx_g6_0,hf_g6_0,hx_g6_1,hf_g6_1,hx_g6_2,hf_g6_2,hx_g6_3,hf_g6_3,hx_g6_4,hf_g6_4,hx_g6_5,hf_g6_5,hx_g6_6,hf_g6_6⟩:=cells7 BK_g6.out
  obtain ⟨hx_g11_0,hf_g11_0,hx_g11_1,hf_g11_1,hx_g11_2,hf_g11_2,hx_g11_3,hf_g11_3,hx_g11_4,hf_g11_4,hx_g11_5,hf_g11_5,hx_g11_6,hf_g11_6⟩:=cells7 BK_g11.out
  go_upto_region 14 with (first
   | ((with_reducible refine gate_callee (f:=10) rfl ?_);refine goesL_ (some 54) rfl rfl Try.func10 (by kernel_rfl) rfl #[.agg #[.int .u64 b,.slice Ax_d d.length p_d,.slice Ax_t t.length p_t,.slice Ax_c c.length p_c,.bool fi,.bool ft,.bool fc],.int .i64 sz,.int .u64 lm] rfl (by (try simp only [List.map_toArray,List.map_cons,List.map_nil]);first | done | rfl) ?_;refine (text_next b _ _ d _ _ t _ _ c fi ft fc sz lm off tz t2 m cf _ (Kd.V_reads' O_d.out).2.2 (Kd.V_reads' O_d.out).2.1 (Kd.V_reads' O_t.out).2.2 (Kd.V_reads' O_t.out).2.1 (Kd.V_reads' O_c.out).2.2 (Kd.V_reads' O_c.out).2.1 HL.out HNO.out HX.out).mono ?_;rintro e_ w13 ⟨u1,u2,u3,u4,rfl,ho1,ho2,ho3,ho4,hb⟩;rw [HF5.out];refine ⟨_,rfl,?_⟩;obtain ⟨pn,hpn⟩ : ∃ n_ : Nat,n_ = w12.heap.size:=⟨_,rfl⟩;obtain ⟨qn,hqn⟩ : ∃ n_ : Nat,n_ = w13.heap.size:=⟨_,rfl⟩;replace HCH:=Aside0.mk (And.intro HCH.out (show g11 < pn ∧ pn ≤ qn by have h_:=HS.out;have h2_:=hb.size;omega));have O_d_n:=Aside0.mk (Kd.R_V (base':=w12.heap.size) (Kd.R_mono (Kd.R_bound ho1) (ok':=fun k_ => pn ≤ k_ ∧ k_ < qn) (fun k_ hk_ => ⟨by rw [hpn];exact hk_.2.1,by rw [hqn];exact hk_.2.2.1⟩)));have O_t_n:=Aside0.mk (Kd.R_V (base':=w12.heap.size) (Kd.R_mono (Kd.R_bound ho2) (ok':=fun k_ => pn ≤ k_ ∧ k_ < qn) (fun k_ hk_ => ⟨by rw [hpn];exact hk_.2.1,by rw [hqn];exact hk_.2.2.1⟩)));have O_c_n:=Aside0.mk (Kd.R_V (base':=w12.heap.size) (Kd.R_mono (Kd.R_bound ho3) (ok':=fun k_ => pn ≤ k_ ∧ k_ < qn) (fun k_ hk_ => ⟨by rw [hpn];exact hk_.2.1,by rw [hqn];exact hk_.2.2.1⟩)));have O_m_n:=Aside0.mk (Kd.R_V (base':=w12.heap.size) (Kd.R_mono (Kd.R_bound ho4) (ok':=fun k_ => pn ≤ k_ ∧ k_ < qn) (fun k_ hk_ => ⟨by rw [hpn];exact hk_.2.1,by rw [hqn];exact hk_.2.2.1⟩)));clear ho1 ho2 ho3 ho4;clear hx_g6_0 hf_g6_0 hx_g6_1 hf_g6_1 hx_g6_2 hf_g6_2 hx_g6_3 hf_g6_3 hx_g6_4 hf_g6_4 hx_g6_5 hf_g6_5 hx_g6_6 hf_g6_6 hx_g11_0 hf_g11_0 hx_g11_1 hf_g11_1 hx_g11_2 hf_g11_2 hx_g11_3 hf_g11_3 hx_g11_4 hf_g11_4 hx_g11_5 hf_g11_5 hx_g11_6 hf_g11_6;have n46_:=Aside0.mk (below_step HB.out hb);have n47_:=Aside0.mk ((Nat.lt_of_lt_of_le (show _ < _ from HS.out) hb.size : g11 < w13.heap.size));have n48_:=Aside0.mk (blk_below BK_g6.out hb);have n49_:=Aside0.mk (blk_below BK_g11.out hb);have n50_:=Aside0.mk (Kd.V_below O_d.out hb);have n51_:=Aside0.mk (Kd.V_below O_t.out hb);have n52_:=Aside0.mk (Kd.V_below O_c.out hb);have n53_:=Aside0.mk (Kd.V_below O_a.out hb);have n54_:=Aside0.mk (Kd.N_below O_s.out hb);clear HB HS BK_g6 BK_g11 O_d O_t O_c O_a O_s;have HB:=n46_;have HS:=n47_;have BK_g6:=n48_;have BK_g11:=n49_;have O_d:=n50_;have O_t:=n51_;have O_c:=n52_;have O_a:=n53_;have O_s:=n54_;clear n46_ n47_ n48_ n49_ n50_ n51_ n52_ n53_ n54_;replace HS:=Aside0.mk (show qn ≤ w13.heap.size by rw [hqn];exact Nat.le_refl _);clear hb hpn hqn;obtain ⟨An,p_n,eo⟩:=Kd.V_slice O_d_n.out;subst eo;obtain ⟨Bn,q_n,eo⟩:=Kd.V_slice O_t_n.out;subst eo;obtain ⟨Cn,r_n,eo⟩:=Kd.V_slice O_c_n.out;subst eo;obtain ⟨Mn,nc,eo⟩:=Kd.V_slice O_m_n.out;subst eo;clear O_d O_t O_c)
   | ((with_reducible refine gate_dst (N:=12) rfl ?_);refine box_event ?hg (N:=12) ?hd (cs:=#[.int .u64 0,.slice none 0 0,.slice none 0 0,.slice none 0 0,.bool false,.bool false,.bool false]) (t:=27) ?hr ?_;(case hd => rfl);(case hg => rfl);(case hr => first | (go_simp;done) | (go_simp;rfl));intro g12 hg w14 hbox hb;have GE_g12:=Aside0.mk (show w.heap.size ≤ g12 by rw [hg];exact HB.out.size);have NB_g6_g12 : g6 ≠ g12:=(by rw [hg];exact Nat.ne_of_lt (blk_lt BK_g6.out));have NB_g12_g6:=NB_g6_g12.symm;have NB_g11_g12 : g11 ≠ g12:=(by rw [hg];exact Nat.ne_of_lt (blk_lt BK_g11.out));have NB_g12_g11:=NB_g11_g12.symm;replace HCH:=Aside0.mk (And.intro HCH.out (show qn ≤ g12 by rw [hg];exact HS.out));have n55_:=Aside0.mk (below_step HB.out hb);have n56_:=Aside0.mk ((Nat.le_trans (show _ ≤ _ from HS.out) hb.size : qn ≤ w14.heap.size));have n57_:=Aside0.mk (blk_below BK_g6.out hb);have n58_:=Aside0.mk (blk_below BK_g11.out hb);have n59_:=Aside0.mk (Kd.V_below O_a.out hb);have n60_:=Aside0.mk (Kd.N_below O_s.out hb);have n61_:=Aside0.mk (Kd.V_below O_d_n.out hb);have n62_:=Aside0.mk (Kd.V_below O_t_n.out hb);have n63_:=Aside0.mk (Kd.V_below O_c_n.out hb);have n64_:=Aside0.mk (Kd.V_below O_m_n.out hb);clear HB HS BK_g6 BK_g11 O_a O_s O_d_n O_t_n O_c_n O_m_n;have HB:=n55_;have HS:=n56_;have BK_g6:=n57_;have BK_g11:=n58_;have O_a:=n59_;have O_s:=n60_;have O_d_n:=n61_;have O_t_n:=n62_;have O_c_n:=n63_;have O_m_n:=n64_;clear n55_ n56_ n57_ n58_ n59_ n60_ n61_ n62_ n63_ n64_;replace HS:=Aside0.mk (show g12 < w14.heap.size from blk_lt hbox);have BK_g12:=Aside0.mk hbox;clear hbox hb hg)
   | ((with_reducible refine gate_dst (N:=13) rfl ?_);refine box_event ?hg (N:=13) ?hd (cs:=#[.int .u64 0,.slice none 0 0,.bool false]) (t:=32) ?hr ?_;(case hd => rfl);(case hg => rfl);(case hr => first | (go_simp;done) | (go_simp;rfl));intro g13 hg w15 hbox hb;have GE_g13:=Aside0.mk (show w.heap.size ≤ g13 by rw [hg];exact HB.out.size);have NB_g6_g13 : g6 ≠ g13:=(by rw [hg];exact Nat.ne_of_lt (blk_lt BK_g6.out));have NB_g13_g6:=NB_g6_g13.symm;have NB_g11_g13 : g11 ≠ g13:=(by rw [hg];exact Nat.ne_of_lt (blk_lt BK_g11.out));have NB_g13_g11:=NB_g11_g13.symm;have NB_g12_g13 : g12 ≠ g13:=(by rw [hg];exact Nat.ne_of_lt (blk_lt BK_g12.out));have NB_g13_g12:=NB_g12_g13.symm;replace HCH:=Aside0.mk (And.intro HCH.out (show g12 < g13 by rw [hg];exact HS.out));have n65_:=Aside0.mk (below_step HB.out hb);have n66_:=Aside0.mk ((Nat.lt_of_lt_of_le (show _ < _ from HS.out) hb.size : g12 < w15.heap.size));have n67_:=Aside0.mk (blk_below BK_g6.out hb);have n68_:=Aside0.mk (blk_below BK_g11.out hb);have n69_:=Aside0.mk (blk_below BK_g12.out hb);have n70_:=Aside0.mk (Kd.V_below O_a.out hb);have n71_:=Aside0.mk (Kd.N_below O_s.out hb);have n72_:=Aside0.mk (Kd.V_below O_d_n.out hb);have n73_:=Aside0.mk (Kd.V_below O_t_n.out hb);have n74_:=Aside0.mk (Kd.V_below O_c_n.out hb);have n75_:=Aside0.mk (Kd.V_below O_m_n.out hb);clear HB HS BK_g6 BK_g11 BK_g12 O_a O_s O_d_n O_t_n O_c_n O_m_n;have HB:=n65_;have HS:=n66_;have BK_g6:=n67_;have BK_g11:=n68_;have BK_g12:=n69_;have O_a:=n70_;have O_s:=n71_;have O_d_n:=n72_;have O_t_n:=n73_;have O_c_n:=n74_;have O_m_n:=n75_;clear n65_ n66_ n67_ n68_ n69_ n70_ n71_ n72_ n73_ n74_ n75_;replace HS:=Aside0.mk (show g13 < w15.heap.size from blk_lt hbox);have BK_g13:=Aside0.mk hbox;clear hbox hb hg;obtain ⟨hx_g12_0,hf_g12_0,hx_g12_1,hf_g12_1,hx_g12_2,hf_g12_2,hx_g12_3,hf_g12_3,hx_g12_4,hf_g12_4,hx_g12_5,hf_g12_5,hx_g12_6,hf_g12_6⟩:=cells7 BK_g12.out;obtain ⟨hx_g13_0,hf_g13_0,hx_g13_1,hf_g13_1,hx_g13_2,hf_g13_2⟩:=cells3 BK_g13.out))
  clear hx_g12_0 hf_g12_0 hx_g12_1 hf_g12_1 hx_g12_2 hf_g12_2 hx_g12_3 hf_g12_3 hx_g12_4 hf_g12_4 hx_g12_5 hf_g12_5 hx_g12_6 hf_g12_6 hx_g13_0 hf_g13_0 hx_g13_1 hf_g13_1 hx_g13_2 hf_g13_2
  obtain ⟨w16,hw76_⟩ : ∃ w_ : World,set7 w15 g12 (.int .u64 b) (.slice An d.length p_n) (.slice Bn t2.length q_n) (.slice Cn c.length r_n) (.bool fi) (.bool f5) (.bool fc) = w_:=⟨_,rfl⟩
  have n77_:=Aside0.mk (blk7 hw76_ BK_g12.out)
  have n78_:=Aside0.mk (far7 hw76_ NB_g6_g12 BK_g6.out)
  have n79_:=Aside0.mk (far7 hw76_ NB_g11_g12 BK_g11.out)
  have n80_:=Aside0.mk (far7 hw76_ NB_g13_g12 BK_g13.out)
  have n81_:=Aside0.mk (text_V7o hw76_ (fun k_ hk_ => by have h_:=HCH.out;omega) O_a.out)
  have n82_:=Aside0.mk (text_N7o hw76_ (fun k_ hk_ => by have h_:=HCH.out;omega) O_s.out)
  have n83_:=Aside0.mk (text_V7o hw76_ (fun k_ hk_ => by have h_:=HCH.out;omega) O_d_n.out)
  have n84_:=Aside0.mk (text_V7o hw76_ (fun k_ hk_ => by have h_:=HCH.out;omega) O_t_n.out)
  have n85_:=Aside0.mk (text_V7o hw76_ (fun k_ hk_ => by have h_:=HCH.out;omega) O_c_n.out)
  have n86_:=Aside0.mk (text_V7o hw76_ (fun k_ hk_ => by have h_:=HCH.out;omega) O_m_n.out)
  have n87_:=Aside0.mk (below7 hw76_ GE_g12.out HB.out)
  have n88_:=Aside0.mk ((text_size7 hw76_).symm ▸ HS.out)
  rw [set7_fold,hw76_]
  clear hw76_ BK_g12 BK_g6 BK_g11 BK_g13 O_a O_s O_d_n O_t_n O_c_n O_m_n HB HS
  have BK_g12:=n77_
  have BK_g6:=n78_
  have BK_g11:=n79_
  have BK_g13:=n80_
  have O_a:=n81_
  have O_s:=n82_
  have O_d_n:=n83_
  have O_t_n:=n84_
  have O_c_n:=n85_
  have O_m_n:=n86_
  have HB:=n87_
  have HS:=n88_
  clear n77_ n78_ n79_ n80_ n81_ n82_ n83_ n84_ n85_ n86_ n87_ n88_
  obtain ⟨w17,hw89_⟩ : ∃ w_ : World,set3 w16 g13 (.int .u64 off) (.slice Mn m.length nc) (.bool cf) = w_:=⟨_,rfl⟩
  have n90_:=Aside0.mk (blk3 hw89_ BK_g13.out)
  have n91_:=Aside0.mk (far3 hw89_ NB_g6_g13 BK_g6.out)
  have n92_:=Aside0.mk (far3 hw89_ NB_g11_g13 BK_g11.out)
  have n93_:=Aside0.mk (far3 hw89_ NB_g12_g13 BK_g12.out)
  have n94_:=Aside0.mk (text_V3o hw89_ (fun k_ hk_ => by have h_:=HCH.out;omega) O_a.out)
  have n95_:=Aside0.mk (text_N3o hw89_ (fun k_ hk_ => by have h_:=HCH.out;omega) O_s.out)
  have n96_:=Aside0.mk (text_V3o hw89_ (fun k_ hk_ => by have h_:=HCH.out;omega) O_d_n.out)
  have n97_:=Aside0.mk (text_V3o hw89_ (fun k_ hk_ => by have h_:=HCH.out;omega) O_t_n.out)
  have n98_:=Aside0.mk (text_V3o hw89_ (fun k_ hk_ => by have h_:=HCH.out;omega) O_c_n.out)
  have n99_:=Aside0.mk (text_V3o hw89_ (fun k_ hk_ => by have h_:=HCH.out;omega) O_m_n.out)
  have n100_:=Aside0.mk (below3 hw89_ GE_g13.out HB.out)
  have n101_:=Aside0.mk ((text_size3 hw89_).symm ▸ HS.out)
  rw [set3_fold,hw89_]
  clear hw89_ BK_g13 BK_g6 BK_g11 BK_g12 O_a O_s O_d_n O_t_n O_c_n O_m_n HB HS
  have BK_g13:=n90_
  have BK_g6:=n91_
  have BK_g11:=n92_
  have BK_g12:=n93_
  have O_a:=n94_
  have O_s:=n95_
  have O_d_n:=n96_
  have O_t_n:=n97_
  have O_c_n:=n98_
  have O_m_n:=n99_
  have HB:=n100_
  have HS:=n101_
  clear n90_ n91_ n92_ n93_ n94_ n95_ n96_ n97_ n98_ n99_ n100_ n101_
  obtain ⟨hx_g12_0,hf_g12_0,hx_g12_1,hf_g12_1,hx_g12_2,hf_g12_2,hx_g12_3,hf_g12_3,hx_g12_4,hf_g12_4,hx_g12_5,hf_g12_5,hx_g12_6,hf_g12_6⟩:=cells7 BK_g12.out
  obtain ⟨hx_g6_0,hf_g6_0,hx_g6_1,hf_g6_1,hx_g6_2,hf_g6_2,hx_g6_3,hf_g6_3,hx_g6_4,hf_g6_4,hx_g6_5,hf_g6_5,hx_g6_6,hf_g6_6⟩:=cells7 BK_g6.out
  go_upto_region 15 with fail
  clear hx_g12_0 hf_g12_0 hx_g12_1 hf_g12_1 hx_g12_2 hf_g12_2 hx_g12_3 hf_g12_3 hx_g12_4 hf_g12_4 hx_g12_5 hf_g12_5 hx_g12_6 hf_g12_6 hx_g6_0 hf_g6_0 hx_g6_1 hf_g6_1 hx_g6_2 hf_g6_2 hx_g6_3 hf_g6_3 hx_g6_4 hf_g6_4 hx_g6_5 hf_g6_5 hx_g6_6 hf_g6_6
  obtain ⟨w18,hw102_⟩ : ∃ w_ : World,set7 w17 g6 (.int .u64 b) (.slice An d.length p_n) (.slice Bn t2.length q_n) (.slice Cn c.length r_n) (.bool fi) (.bool f5) (.bool fc) = w_:=⟨_,rfl⟩
  have n103_:=Aside0.mk (blk7 hw102_ BK_g6.out)
  have n104_:=Aside0.mk (far7 hw102_ NB_g11_g6 BK_g11.out)
  have n105_:=Aside0.mk (far7 hw102_ NB_g12_g6 BK_g12.out)
  have n106_:=Aside0.mk (far7 hw102_ NB_g13_g6 BK_g13.out)
  have n107_:=Aside0.mk (text_V7o hw102_ (fun k_ hk_ => by have h_:=HCH.out;omega) O_a.out)
  have n108_:=Aside0.mk (text_N7o hw102_ (fun k_ hk_ => by have h_:=HCH.out;omega) O_s.out)
  have n109_:=Aside0.mk (text_V7o hw102_ (fun k_ hk_ => by have h_:=HCH.out;omega) O_d_n.out)
  have n110_:=Aside0.mk (text_V7o hw102_ (fun k_ hk_ => by have h_:=HCH.out;omega) O_t_n.out)
  have n111_:=Aside0.mk (text_V7o hw102_ (fun k_ hk_ => by have h_:=HCH.out;omega) O_c_n.out)
  have n112_:=Aside0.mk (text_V7o hw102_ (fun k_ hk_ => by have h_:=HCH.out;omega) O_m_n.out)
  have n113_:=Aside0.mk (below7 hw102_ GE_g6.out HB.out)
  have n114_:=Aside0.mk ((text_size7 hw102_).symm ▸ HS.out)
  rw [set7_fold,hw102_]
  clear hw102_ BK_g6 BK_g11 BK_g12 BK_g13 O_a O_s O_d_n O_t_n O_c_n O_m_n HB HS
  have BK_g6:=n103_
  have BK_g11:=n104_
  have BK_g12:=n105_
  have BK_g13:=n106_
  have O_a:=n107_
  have O_s:=n108_
  have O_d_n:=n109_
  have O_t_n:=n110_
  have O_c_n:=n111_
  have O_m_n:=n112_
  have HB:=n113_
  have HS:=n114_
  clear n103_ n104_ n105_ n106_ n107_ n108_ n109_ n110_ n111_ n112_ n113_ n114_
  clear BK_g12
  obtain ⟨en,hen⟩ : ∃ y_ : Int,off + (m.length : Int) = y_:=⟨_,rfl⟩
  have HEN:=Aside0.mk hen
  have hok:=HOK.out
  rw [hen] at hok
  replace HOK:=Aside0.mk hok
  have u1_ : IntKind.u64.wrap (m.length : Int) = (m.length : Int):=by rw [IntKind.wrap_u64];have h2:=HN.out;omega
  have u2_ : IntKind.u64.wrap (off + (m.length : Int)) = en:=by rw [hen,IntKind.wrap_u64];have h2:=HN.out;omega
  have u3_ : IntKind.u64.wrap (l0.length : Int) = (l0.length : Int):=by rw [IntKind.wrap_u64];have h2:=HN.out;omega
  have u4_ : decide (off > (l0.length : Int)) = false:=decide_eq_false (by omega)
  have u5_ : decide ((l0.length : Int) < off) = false:=decide_eq_false (by omega)
  have u6_ : decide (en > (l0.length : Int)) = false:=decide_eq_false (by omega)
  have u7_ : decide ((l0.length : Int) < en) = false:=decide_eq_false (by omega)
  clear hen hok
  obtain ⟨hx_g13_0,hf_g13_0,hx_g13_1,hf_g13_1,hx_g13_2,hf_g13_2⟩:=cells3 BK_g13.out
  go_upto_region 19 with fail
  clear hx_g13_0 hf_g13_0 hx_g13_1 hf_g13_1 hx_g13_2 hf_g13_2
  go_cut [122] from 81 to 122 (fun v122 wc => v122 = .bool false ∧ Aside0 (Kd.V (Kd.int .u8) 5 wc w12.heap.size (fun k_ => pn ≤ k_ ∧ k_ < qn) (.slice An d.length p_n) (d)) ∧ Aside0 (Kd.V k37 37 wc w12.heap.size (fun k_ => pn ≤ k_ ∧ k_ < qn) (.slice Bn t2.length q_n) (t2)) ∧ Aside0 (Kd.V k37 37 wc w12.heap.size (fun k_ => pn ≤ k_ ∧ k_ < qn) (.slice Cn c.length r_n) (c)) ∧ Aside0 (Kd.V (Kd.int .u8) 5 wc w12.heap.size (fun k_ => pn ≤ k_ ∧ k_ < qn) (.slice Mn m.length nc) (m)) ∧ Aside0 (Kd.V k37 37 wc w.heap.size (fun k_ => (k_ ≠ g6 ∧ some k_ ≠ (.slice Ax_s se.length p_s : Value).ownBlock) ∧ k_ < pz) (.slice Ax_a ca.length p_a) (ca)) ∧ Aside0 (Kd.N k32 32 wc w.heap.size (fun k_ => k_ ≠ g6 ∧ k_ < pz) (.slice Ax_s se.length p_s) (se)) ∧ Aside0 (wc.heap[g6]? = some (.cells #[.int .u64 b,.slice An d.length p_n,.slice Bn t2.length q_n,.slice Cn c.length r_n,.bool fi,.bool f5,.bool fc] 27 (0,0))) ∧ Aside0 (wc.heap[g11]? = some (.cells #[.int .i64 3,.slice Aq fd.length cq,.int .i64 sz,.int .u64 lm,.int .i64 nn,.int .u64 fo,.bool ff] 48 (0,0))) ∧ Aside0 (wc.heap[g13]? = some (.cells #[.int .u64 off,.slice Mn m.length nc,.bool cf] 32 (0,0))) ∧ Aside0 (g13 < wc.heap.size) ∧ Aside0 (Below w.heap.size w wc))
  case first =>
   obtain ⟨hx_g13_0,hf_g13_0,hx_g13_1,hf_g13_1,hx_g13_2,hf_g13_2⟩:=cells3 BK_g13.out
   obtain ⟨hx_g11_0,hf_g11_0,hx_g11_1,hf_g11_1,hx_g11_2,hf_g11_2,hx_g11_3,hf_g11_3,hx_g11_4,hf_g11_4,hx_g11_5,hf_g11_5,hx_g11_6,hf_g11_6⟩:=cells7 BK_g11.out
   obtain ⟨cg,hcg⟩ : ∃ y_ : Bool,y_ = cf:=⟨_,rfl⟩
   rw [← hcg] at hx_g13_2
   have HCG:=Aside0.mk hcg
   clear hcg
   obtain ⟨i0_,hi0_,_,hsz_,_⟩:=info_parts info5
   have h0_:=HOK.out.1
   have h2_:=HOK.out.2.1
   have he_:=HEN.out
   have hcut_:=cut_mid (P:=Try.prog) 22 5 .u64 .u64 Try.underlying22 hi0_ 1 hsz_ A0 l0.length c0 off en h0_ (by omega) h2_ HC0.out
   have hmid_:=Kd.C_mid (lo:=off.toNat) (hi:=en.toNat) (Kd.C_below HR0.out HB.out) (by omega) (by omega) HC0.out
   have hln_ : ((l0.take en.toNat).drop off.toNat).length = en.toNat - off.toNat:=by rw [List.length_drop,List.length_take];omega
   rw [← HOK.out.2.2.1] at hmid_ hln_
   rw [← hln_,Nat.mul_one] at hcut_
   rw [show (Kd.int .u8).sz = 1 from rfl,Nat.mul_one] at hmid_
   obtain ⟨Ac_,hAc_⟩ : ∃ y_ : Option Addr,(if c0 = off.toNat then A0 else A0.map (·.add off.toNat)) = y_:=⟨_,rfl⟩
   rw [hAc_] at hcut_ hmid_
   clear hAc_
   have hcv1:=Kd.C_string (P:=Try.prog) (c:=nc) Try.underlying22 Try.underlying5 Try.underlying9 (Kd.V_reads' O_m_n.out).2.2
   have hcv1d:=Kd.C_string (P:=Try.prog) (c:=nc) Try.underlying22 Try.underlying5 Try.underlying9 (Kd.C_drew (Kd.V_reads' O_m_n.out).2.2)
   have hcv2:=Kd.C_string (P:=Try.prog) (c:=c0 - off.toNat) Try.underlying22 Try.underlying5 Try.underlying9 hmid_
   have hcv2d:=Kd.C_string (P:=Try.prog) (c:=c0 - off.toNat) Try.underlying22 Try.underlying5 Try.underlying9 (Kd.C_drew hmid_)
   have sq : ((strOfNums m).toList == (strOfNums m).toList) = true:=beq_self_eq_true _
   have hmx:=HOK.out.2.2.2.1
   obtain ⟨mz,hmz⟩ : ∃ y_ : Int,mx sz 0 = y_:=⟨_,rfl⟩
   rw [hmz] at hmx
   have qmz : (if sz < 0 then (0 : Int) else sz) = mz:=hmz
   have qm1 : decide ((m.length : Int) > mz) = false:=decide_eq_false (by omega)
   have qm2 : decide (mz < (m.length : Int)) = false:=decide_eq_false (by omega)
   clear hmz
   have qo1 : (0 ≤ off) = True:=eq_true h0_
   have qo2 : (off ≤ en) = True:=eq_true (by omega)
   have qo3 : (en ≤ (l0.length : Int)) = True:=eq_true h2_
   clear hi0_ hsz_ hmid_ hln_ h0_ h2_ he_
   by_cases cm : 0 < m.length
   ·have qm3 : decide ((m.length : Int) > 0) = true:=decide_eq_true (by omega)
    have qm4 : decide ((0 : Int) < (m.length : Int)) = true:=decide_eq_true (by omega)
    have qm5 : decide (0 < m.length) = true:=decide_eq_true cm
    have hlm:=HOK.out.2.2.2.2.1 cm
    have qm6 : decide (en > lm) = false:=decide_eq_false (by omega)
    have qm7 : decide (lm < en) = false:=decide_eq_false (by omega)
    clear hlm cm hmx
    cases cg with
    | true =>
     have hce:=HOK.out.2.2.2.2.2 HCG.out.symm
     have qc1 : (en == (l0.length : Int)) = true:=beq_iff_eq.mpr hce
     have qc2 : (en != (l0.length : Int)) = false:=by rw [hce];simp
     have qc3 : decide (en = (l0.length : Int)) = true:=decide_eq_true hce
     clear hce
     go_region
     all_goals (try go_wp2_with fail)
     all_goals go_meet
     all_goals exact ⟨rfl,(by first | exact O_d_n | exact ⟨Kd.V_drew O_d_n.out⟩),(by first | exact O_t_n | exact ⟨Kd.V_drew O_t_n.out⟩),(by first | exact O_c_n | exact ⟨Kd.V_drew O_c_n.out⟩),(by first | exact O_m_n | exact ⟨Kd.V_drew O_m_n.out⟩),(by first | exact O_a | exact ⟨Kd.V_drew O_a.out⟩),(by first | exact O_s | exact ⟨Kd.N_drew O_s.out⟩),(by first | exact BK_g6 | exact ⟨blk_drew BK_g6.out⟩),(by first | exact BK_g11 | exact ⟨blk_drew BK_g11.out⟩),(by first | exact BK_g13 | exact ⟨blk_drew BK_g13.out⟩),(by first | exact HS | exact ⟨HS.out⟩),(by first | exact HB | exact ⟨below_drew1 HB.out⟩)⟩
    | false =>
     go_region
     all_goals (try go_wp2_with fail)
     all_goals go_meet
     all_goals exact ⟨rfl,(by first | exact O_d_n | exact ⟨Kd.V_drew O_d_n.out⟩),(by first | exact O_t_n | exact ⟨Kd.V_drew O_t_n.out⟩),(by first | exact O_c_n | exact ⟨Kd.V_drew O_c_n.out⟩),(by first | exact O_m_n | exact ⟨Kd.V_drew O_m_n.out⟩),(by first | exact O_a | exact ⟨Kd.V_drew O_a.out⟩),(by first | exact O_s | exact ⟨Kd.N_drew O_s.out⟩),(by first | exact BK_g6 | exact ⟨blk_drew BK_g6.out⟩),(by first | exact BK_g11 | exact ⟨blk_drew BK_g11.out⟩),(by first | exact BK_g13 | exact ⟨blk_drew BK_g13.out⟩),(by first | exact HS | exact ⟨HS.out⟩),(by first | exact HB | exact ⟨below_drew1 HB.out⟩)⟩
   ·have qm3 : decide ((m.length : Int) > 0) = false:=decide_eq_false (by omega)
    have qm4 : decide ((0 : Int) < (m.length : Int)) = false:=decide_eq_false (by omega)
    have qm5 : decide (0 < m.length) = false:=decide_eq_false cm
    clear cm hmx
    cases cg with
    | true =>
     have hce:=HOK.out.2.2.2.2.2 HCG.out.symm
     have qc1 : (en == (l0.length : Int)) = true:=beq_iff_eq.mpr hce
     have qc2 : (en != (l0.length : Int)) = false:=by rw [hce];simp
     have qc3 : decide (en = (l0.length : Int)) = true:=decide_eq_true hce
     clear hce
     go_region
     all_goals (try go_wp2_with fail)
     all_goals go_meet
     all_goals exact ⟨rfl,(by first | exact O_d_n | exact ⟨Kd.V_drew O_d_n.out⟩),(by first | exact O_t_n | exact ⟨Kd.V_drew O_t_n.out⟩),(by first | exact O_c_n | exact ⟨Kd.V_drew O_c_n.out⟩),(by first | exact O_m_n | exact ⟨Kd.V_drew O_m_n.out⟩),(by first | exact O_a | exact ⟨Kd.V_drew O_a.out⟩),(by first | exact O_s | exact ⟨Kd.N_drew O_s.out⟩),(by first | exact BK_g6 | exact ⟨blk_drew BK_g6.out⟩),(by first | exact BK_g11 | exact ⟨blk_drew BK_g11.out⟩),(by first | exact BK_g13 | exact ⟨blk_drew BK_g13.out⟩),(by first | exact HS | exact ⟨HS.out⟩),(by first | exact HB | exact ⟨below_drew1 HB.out⟩)⟩
    | false =>
     go_region
     all_goals (try go_wp2_with fail)
     all_goals go_meet
     all_goals exact ⟨rfl,(by first | exact O_d_n | exact ⟨Kd.V_drew O_d_n.out⟩),(by first | exact O_t_n | exact ⟨Kd.V_drew O_t_n.out⟩),(by first | exact O_c_n | exact ⟨Kd.V_drew O_c_n.out⟩),(by first | exact O_m_n | exact ⟨Kd.V_drew O_m_n.out⟩),(by first | exact O_a | exact ⟨Kd.V_drew O_a.out⟩),(by first | exact O_s | exact ⟨Kd.N_drew O_s.out⟩),(by first | exact BK_g6 | exact ⟨blk_drew BK_g6.out⟩),(by first | exact BK_g11 | exact ⟨blk_drew BK_g11.out⟩),(by first | exact BK_g13 | exact ⟨blk_drew BK_g13.out⟩),(by first | exact HS | exact ⟨HS.out⟩),(by first | exact HB | exact ⟨below_drew1 HB.out⟩)⟩
  case rest =>
   clear O_d_n O_t_n O_c_n O_m_n O_a O_s BK_g6 BK_g11 BK_g13 HS HB
   obtain ⟨rfl,O_d_n,O_t_n,O_c_n,O_m_n,O_a,O_s,BK_g6,BK_g11,BK_g13,HS,HB⟩:=hcut
   obtain ⟨hx_g13_0,hf_g13_0,hx_g13_1,hf_g13_1,hx_g13_2,hf_g13_2⟩:=cells3 BK_g13.out
   go_upto_block 2 with fail
   go_wp2_with fail
   clear hx_g13_0 hf_g13_0 hx_g13_1 hf_g13_1 hx_g13_2 hf_g13_2
   go_loopg [16] m.length (fun kq v16 w' => ∃ j : Int,v16 = .int .i64 j ∧ Aside0 (0 ≤ j ∧ j + kq = m.length) ∧ Aside0 (Kd.V (Kd.int .u8) 5 w' w12.heap.size (fun k_ => pn ≤ k_ ∧ k_ < qn) (.slice An d.length p_n) (d)) ∧ Aside0 (Kd.V k37 37 w' w12.heap.size (fun k_ => pn ≤ k_ ∧ k_ < qn) (.slice Bn t2.length q_n) (t2)) ∧ Aside0 (Kd.V k37 37 w' w12.heap.size (fun k_ => pn ≤ k_ ∧ k_ < qn) (.slice Cn c.length r_n) (c)) ∧ Aside0 (Kd.V (Kd.int .u8) 5 w' w12.heap.size (fun k_ => pn ≤ k_ ∧ k_ < qn) (.slice Mn m.length nc) (m)) ∧ Aside0 (Kd.V k37 37 w' w.heap.size (fun k_ => (k_ ≠ g6 ∧ some k_ ≠ (.slice Ax_s se.length p_s : Value).ownBlock) ∧ k_ < pz) (.slice Ax_a ca.length p_a) (ca)) ∧ Aside0 (Kd.N k32 32 w' w.heap.size (fun k_ => k_ ≠ g6 ∧ k_ < pz) (.slice Ax_s se.length p_s) (se)) ∧ Aside0 (w'.heap[g6]? = some (.cells #[.int .u64 b,.slice An d.length p_n,.slice Bn t2.length q_n,.slice Cn c.length r_n,.bool fi,.bool f5,.bool fc] 27 (0,0))) ∧ Aside0 (w'.heap[g11]? = some (.cells #[.int .i64 3,.slice Aq fd.length cq,.int .i64 sz,.int .u64 lm,.int .i64 nn,.int .u64 fo,.bool ff] 48 (0,0))) ∧ Aside0 (w'.heap[g13]? = some (.cells #[.int .u64 off,.slice Mn m.length nc,.bool cf] 32 (0,0))) ∧ Aside0 (g13 < w'.heap.size) ∧ Aside0 (Below w.heap.size w w'))
   case atStart => exact ⟨0,rfl,⟨by simp⟩,O_d_n,O_t_n,O_c_n,O_m_n,O_a,O_s,BK_g6,BK_g11,BK_g13,HS,HB⟩
   case round =>
   clear O_d_n O_t_n O_c_n O_m_n O_a O_s BK_g6 BK_g11 BK_g13 HS HB
   obtain ⟨j,rfl,HJ,O_d_n,O_t_n,O_c_n,O_m_n,O_a,O_s,BK_g6,BK_g11,BK_g13,HS,HB⟩:=hrel
   by_cases cj : j < (m.length : Int)
   case pos =>
    have kj1 : decide (j < (m.length : Int)) = true:=decide_eq_true cj
    cases gk with
    | zero => exact absurd HJ.out.2 (by omega)
    | succ k2 =>
     have hj : ((j.toNat : Nat) : Int) = j:=by have h_:=HJ.out;omega
     have hf_:=HFR.out j.toNat (by omega)
     rw [hj] at hf_
     obtain ⟨zp,hzp⟩ : ∃ y_ : Int,off + j = y_:=⟨_,rfl⟩
     rw [hzp] at hf_
     have HF_:=Aside0.mk hf_
     have hwj : wrap64 (j + 1) = j + 1:=by have h2:=HJ.out;have h3:=HOK.out;have h4:=HEN.out;have h5:=HN.out;unfold wrap64;omega
     have v1_ : IntKind.u64.wrap j = j:=by rw [IntKind.wrap_u64];have h2:=HJ.out;have h3:=HOK.out;have h4:=HEN.out;have h5:=HN.out;omega
     have v2_ : IntKind.u64.wrap (off + j) = zp:=by rw [hzp,IntKind.wrap_u64];have h2:=HJ.out;have h3:=HOK.out;have h4:=HEN.out;have h5:=HN.out;omega
     clear hf_ hj hzp cj
     obtain ⟨hx_g13_0,hf_g13_0,hx_g13_1,hf_g13_1,hx_g13_2,hf_g13_2⟩:=cells3 BK_g13.out
     go_wp2_with (go_at_call 17;refine (wigwagref07_Has.calls k _ _ ca zp false _ (Kd.V_reads' O_a.out).2.2 (Kd.V_reads' O_a.out).2.1 HF_.out).mono ?_;rintro e_ wh ⟨rfl,hd_⟩;have hb:=hd_.below;clear hx_g13_0 hf_g13_0 hx_g13_1 hf_g13_1 hx_g13_2 hf_g13_2;have n115_:=Aside0.mk (below_step HB.out hb);have n116_:=Aside0.mk ((Nat.lt_of_lt_of_le (show _ < _ from HS.out) hb.size : g13 < wh.heap.size));have n117_:=Aside0.mk (blk_below BK_g6.out hb);have n118_:=Aside0.mk (blk_below BK_g11.out hb);have n119_:=Aside0.mk (blk_below BK_g13.out hb);have n120_:=Aside0.mk (Kd.V_below O_a.out hb);have n121_:=Aside0.mk (Kd.N_below O_s.out hb);have n122_:=Aside0.mk (Kd.V_below O_d_n.out hb);have n123_:=Aside0.mk (Kd.V_below O_t_n.out hb);have n124_:=Aside0.mk (Kd.V_below O_c_n.out hb);have n125_:=Aside0.mk (Kd.V_below O_m_n.out hb);clear HB HS BK_g6 BK_g11 BK_g13 O_a O_s O_d_n O_t_n O_c_n O_m_n;have HB:=n115_;have HS:=n116_;have BK_g6:=n117_;have BK_g11:=n118_;have BK_g13:=n119_;have O_a:=n120_;have O_s:=n121_;have O_d_n:=n122_;have O_t_n:=n123_;have O_c_n:=n124_;have O_m_n:=n125_;clear n115_ n116_ n117_ n118_ n119_ n120_ n121_ n122_ n123_ n124_ n125_;clear hb hd_;obtain ⟨hx_g13_0,hf_g13_0,hx_g13_1,hf_g13_1,hx_g13_2,hf_g13_2⟩:=cells3 BK_g13.out)
     go_roundg k2
     case measure => omega
     case rel => exact ⟨wrap64 (j + 1),(by first | rfl | simp only [hwj]),⟨by have h2:=HJ.out;rw [hwj];omega⟩,O_d_n,O_t_n,O_c_n,O_m_n,O_a,O_s,BK_g6,BK_g11,BK_g13,HS,HB⟩
   case neg =>
    have kj1 : decide (j < (m.length : Int)) = false:=decide_eq_false cj
    clear cj HJ HFR
    obtain ⟨hx_g13_0,hf_g13_0,hx_g13_1,hf_g13_1,hx_g13_2,hf_g13_2⟩:=cells3 BK_g13.out
    go_upto_region 28 with (first
     | ((with_reducible refine gate_builtin (b:=.append) (xs:=#[.tmp 138,.tmp 140]) rfl ?_);at_builtin;refine Kd.N_append k32 (w0:=w) w.heap.size rfl (.tmp 138) (.tmp 140) 46 32 (.agg #[.int .u64 0,.slice none 0 0,.bool false]) 40 rfl Try.underlying46 text_info rfl (by decide) (by omega) (.slice Ax_s se.length p_s) se (⟨off,m,cf⟩ : S32) [.int .u64 off,.slice Mn m.length nc,.bool cf] (fun k_ => k_ ≠ g6) (fun k_ => pn ≤ k_ ∧ k_ < qn) rfl rfl ?aP ?aK ?aF ?aO ?aB ?aS ?aL ?_;(case aP => exact k32_mkF _ _ (⟨off,m,cf⟩ : S32) (Kd.V_at O_m_n.out).2.1 (Kd.V_at O_m_n.out).2.2);(case aK => exact fun k_ hk_ => ⟨by have h_:=HCH.out;omega,fun he_ => by have h_:=HVS.out k_ he_.symm;have h2_:=HCH.out;omega⟩);(case aF => exact fun k_ hk_ => by have h_:=HCH.out;have h2_:=HS.out;omega);(case aO => exact Kd.N_mono O_s.out (fun k_ hk_ => hk_.1));(case aB => exact HB.out);(case aS => exact HB.out.size);(case aL => have h_:=HL2.out;have h2_:=HI.out;omega);intro v141 w30 ho hb hg hat;rw [HSE2.out] at ho;clear hx_g13_0 hf_g13_0 hx_g13_1 hf_g13_1 hx_g13_2 hf_g13_2;have nO_d_n_:=Aside0.mk (Kd.V_after (Kd.V_mono O_d_n.out (ok':=(fun k_ => k_ ≠ g6 ∧ some k_ ≠ (.slice Ax_s se.length p_s : Value).ownBlock)) (fun k_ hk_ => ⟨by have h_:=HCH.out;omega,fun he_ => by have h_:=HVS.out k_ he_.symm;have h2_:=HCH.out;omega⟩)) hg hat);have nO_t_n_:=Aside0.mk (Kd.V_after (Kd.V_mono O_t_n.out (ok':=(fun k_ => k_ ≠ g6 ∧ some k_ ≠ (.slice Ax_s se.length p_s : Value).ownBlock)) (fun k_ hk_ => ⟨by have h_:=HCH.out;omega,fun he_ => by have h_:=HVS.out k_ he_.symm;have h2_:=HCH.out;omega⟩)) hg hat);have nO_c_n_:=Aside0.mk (Kd.V_after (Kd.V_mono O_c_n.out (ok':=(fun k_ => k_ ≠ g6 ∧ some k_ ≠ (.slice Ax_s se.length p_s : Value).ownBlock)) (fun k_ hk_ => ⟨by have h_:=HCH.out;omega,fun he_ => by have h_:=HVS.out k_ he_.symm;have h2_:=HCH.out;omega⟩)) hg hat);have nO_a_:=Aside0.mk (Kd.V_after (Kd.V_mono O_a.out (ok':=(fun k_ => k_ ≠ g6 ∧ some k_ ≠ (.slice Ax_s se.length p_s : Value).ownBlock)) (fun k_ hk_ => hk_.1)) hg hat);have nBK_g6_:=Aside0.mk (blk_grown BK_g6.out hg (Kd.N_away O_s.out (fun _ hk_ => hk_.1)));have nBK_g11_:=Aside0.mk (blk_grown BK_g11.out hg (fun he_ => by have h_:=HVS.out _ he_.symm;have h2_:=HCH.out;omega));have nHB_:=Aside0.mk (hb);have nO_s_:=Aside0.mk (ho);clear O_m_n BK_g13 HS HVS O_d_n O_t_n O_c_n O_a BK_g6 BK_g11 HB O_s;have O_d_n:=nO_d_n_;have O_t_n:=nO_t_n_;have O_c_n:=nO_c_n_;have O_a:=nO_a_;have BK_g6:=nBK_g6_;have BK_g11:=nBK_g11_;have HB:=nHB_;have O_s:=nO_s_;clear ho hb hg hat nO_d_n_ nO_t_n_ nO_c_n_ nO_a_ nBK_g6_ nBK_g11_ nHB_ nO_s_;obtain ⟨Ay_s,py_s,eo⟩:=Kd.N_slice O_s.out;subst eo))
    by_cases cn1 : nn < 0
    ·have cb2 : decide (nn < 0) = true:=decide_eq_true cn1
     obtain ⟨hx_g11_0,hf_g11_0,hx_g11_1,hf_g11_1,hx_g11_2,hf_g11_2,hx_g11_3,hf_g11_3,hx_g11_4,hf_g11_4,hx_g11_5,hf_g11_5,hx_g11_6,hf_g11_6⟩:=cells7 BK_g11.out
     go_wp2
     go_roundg k1
     case measure => omega
     case rel => exact ⟨wrap64 (i + 1),b,d,t2,c,fi,f5,fc,se2,ca,_,_,_,_,_,rfl,rfl,(by first | rfl | simp only [hw]),⟨by have h2:=HI.out;rw [hw];omega⟩,⟨by rw [HI2.out];exact HQ.out⟩,O_d_n,O_t_n,O_c_n,O_a,O_s,BK_g6,HB⟩
    have cb2 : decide (nn < 0) = false:=decide_eq_false cn1
    by_cases cn2 : nn ≥ (se2.length : Int)
    ·have cb3 : decide (nn ≥ (se2.length : Int)) = true:=decide_eq_true cn2
     have cb4 : decide ((se2.length : Int) ≤ nn) = true:=decide_eq_true cn2
     obtain ⟨hx_g11_0,hf_g11_0,hx_g11_1,hf_g11_1,hx_g11_2,hf_g11_2,hx_g11_3,hf_g11_3,hx_g11_4,hf_g11_4,hx_g11_5,hf_g11_5,hx_g11_6,hf_g11_6⟩:=cells7 BK_g11.out
     go_wp2
     go_roundg k1
     case measure => omega
     case rel => exact ⟨wrap64 (i + 1),b,d,t2,c,fi,f5,fc,se2,ca,_,_,_,_,_,rfl,rfl,(by first | rfl | simp only [hw]),⟨by have h2:=HI.out;rw [hw];omega⟩,⟨by rw [HI2.out];exact HQ.out⟩,O_d_n,O_t_n,O_c_n,O_a,O_s,BK_g6,HB⟩
    ·have cb3 : decide (nn ≥ (se2.length : Int)) = false:=decide_eq_false cn2
     have cb4 : decide ((se2.length : Int) ≤ nn) = false:=decide_eq_false cn2
     obtain ⟨hx_g11_0,hf_g11_0,hx_g11_1,hf_g11_1,hx_g11_2,hf_g11_2,hx_g11_3,hf_g11_3,hx_g11_4,hf_g11_4,hx_g11_5,hf_g11_5,hx_g11_6,hf_g11_6⟩:=cells7 BK_g11.out
     go_wp2
     go_roundg k1
     case measure => omega
     case rel => exact ⟨wrap64 (i + 1),b,d,t2,c,fi,f5,fc,se2,ca,_,_,_,_,_,rfl,rfl,(by first | rfl | simp only [hw]),⟨by have h2:=HI.out;rw [hw];omega⟩,⟨by rw [HI2.out];exact HQ.out⟩,O_d_n,O_t_n,O_c_n,O_a,O_s,BK_g6,HB⟩
set_option maxHeartbeats 8000000 in
set_option maxRecDepth 100000 in
theorem text_moved (k : Nat) (A0 : Option Addr) (c0 : Nat) (l0 : List Int) (A1 : Option Addr) (c1 : Nat) (l1 : List S48) (w : World) (g6 pz k1 : Nat) (wr : World) (i b : Int) (d : List Int) (t c : List S37) (fi ft fc : Bool) (se : List S32) (ca : List S37) (Ax_s Ax_d Ax_t Ax_c Ax_a : Option Addr) (p_s p_d p_t p_c p_a : Nat) {u4 u11 u12 u13 u14 u15 u16 u17 u18 u19 u20 u21 u22 u23 u24 u25 u26 u27 u28 u29 u30 u31 u32 u33 u34 u35 u36 u37 u38 u39 u40 u41 u42 u43 u44 u45 u46 u47 u48 u49 u50 u51 u52 u53 u54 u55 u56 u57 u58 u59 u60 u61 u62 u63 u64 u65 u66 u67 u68 u69 u70 u71 u72 u73 u74 u75 u76 u77 u78 u79 u80 u81 u82 u83 u84 u85 u86 u87 u88 u89 u90 u91 u92 u93 u94 u95 u96 u97 u98 u99 u100 u101 u102 u103 u104 u105 u106 u107 u108 u109 u110 u111 u112 u113 u114 u115 u116 u117 u118 u119 u120 u121 u122 u123 u124 u125 u126 u127 u128 u129 u130 u131 u132 u133 u134 u135 u136 u137 u138 u139 u140 u141 u142 u143 u144 u145 u146 u147 u148 u149 u150 u151 u152 u153 u154 u155 u156 u157 u158 u159 u160 u161 u162 u163 u164 u165 u166 u167 u168 u169 u170 u171 u172 u173 u174 u175 u176 u177 u178 u179 u180 u181 u182 u183 u184 u185 u186 u187 u188 u189 u190 u191 u192 u193 u194 u195 : Value}
  (HR0 : Aside0 (Kd.C (Kd.int .u8) w A0 l0.length l0)) (HC0 : Aside0 (l0.length ≤ c0)) (HR1 : Aside0 (Kd.C k48 w A1 l1.length l1)) (HC1 : Aside0 (l1.length ≤ c1)) (HN : Aside0 (l0.length ≤ 300)) (GE_g6 : Aside0 (w.heap.size ≤ g6)) (HVS : Aside0 (∀ k_ : Nat,(.slice Ax_s se.length p_s : Value).ownBlock = some k_ → k_ < pz)) (O_d : Aside0 (Kd.V (Kd.int .u8) 5 wr w.heap.size (fun k_ => (k_ ≠ g6 ∧ some k_ ≠ (.slice Ax_s se.length p_s : Value).ownBlock) ∧ k_ < pz) (.slice Ax_d d.length p_d) (d))) (O_t : Aside0 (Kd.V k37 37 wr w.heap.size (fun k_ => (k_ ≠ g6 ∧ some k_ ≠ (.slice Ax_s se.length p_s : Value).ownBlock) ∧ k_ < pz) (.slice Ax_t t.length p_t) (t))) (O_c : Aside0 (Kd.V k37 37 wr w.heap.size (fun k_ => (k_ ≠ g6 ∧ some k_ ≠ (.slice Ax_s se.length p_s : Value).ownBlock) ∧ k_ < pz) (.slice Ax_c c.length p_c) (c))) (O_a : Aside0 (Kd.V k37 37 wr w.heap.size (fun k_ => (k_ ≠ g6 ∧ some k_ ≠ (.slice Ax_s se.length p_s : Value).ownBlock) ∧ k_ < pz) (.slice Ax_a ca.length p_a) (ca))) (O_s : Aside0 (Kd.N k32 32 wr w.heap.size (fun k_ => k_ ≠ g6 ∧ k_ < pz) (.slice Ax_s se.length p_s) (se))) (BK_g6 : Aside0 (wr.heap[g6]? = some (.cells #[.int .u64 b,.slice Ax_d d.length p_d,.slice Ax_t t.length p_t,.slice Ax_c c.length p_c,.bool fi,.bool ft,.bool fc] 27 (0,0)))) (HB : Aside0 (Below w.heap.size w wr)) (HCH : Aside0 (g6 < pz)) (HS : Aside0 (pz ≤ wr.heap.size)) (HI : Aside0 (0 ≤ i ∧ i + ((k1 + 1 : Nat) : Int) = 60)) (HQ : Aside0 (text_go k l0 l1 (k1 + 1) i.toNat b d t c fi ft fc se ca = some ())) (ci : i < (l1.length : Int)) (hkd : ¬ (rd_T48 l1 i).f0 = 3)
  (J : Nat → Act → World → Prop) (K K2 : Act → World → Prop) (R0 : Ending → World → Prop) (hK : ∀ (a' : Act) (w' : World),Handed J (k1 + 1) a' w' → K a' w')
  (hJ : ∀ (kq : Nat) (a' : Act) (w' : World),(∃ u4 u8 u9 u10 u11 u12 u13 u14 u15 u16 u17 u31 u32 u33 u34 u35 u36 u37 u38 u39 u40 u41 u42 u43 u44 u45 u46 u47 u48 u49 u50 u51 u52 u53 u54 u55 u56 u57 u58 u59 u60 u61 u62 u63 u64 u65 u66 u67 u68 u69 u70 u71 u72 u73 u74 u75 u76 u77 u78 u79 u80 u81 u82 u83 u84 u85 u86 u87 u88 u89 u90 u91 u92 u93 u94 u95 u96 u97 u98 u99 u100 u101 u102 u103 u104 u105 u106 u107 u108 u109 u110 u111 u112 u113 u114 u115 u116 u117 u118 u119 u120 u121 u122 u123 u124 u125 u126 u127 u128 u129 u130 u131 u132 u133 u134 u135 u136 u137 u138 u139 u140 u141 u142 u143 u144 u145 u146 u147 u148 u149 u150 u151 u152 u153 u154 u155 u156 u157 u158 u159 u160 u161 u162 u163 u164 u165 u166 u167 u168 u169 u170 u171 u172 u173 u174 u175 u176 u177 u178 u179 u180 u181 u182 u183 u184 u185 u186 u187 u188 u189 u190 u191 u192 u193 u194 u195 : Value,(∃ (i b : Int) (d : List Int) (t c : List S37) (fi ft fc : Bool) (se : List S32) (ca : List S37) (vd vt vc vs va : Value),vs = u8 ∧ va = u9 ∧ u10 = .int .i64 i ∧ Aside0 (0 ≤ i ∧ i + kq = 60) ∧ Aside0 (text_go k l0 l1 kq i.toNat b d t c fi ft fc se ca = some ()) ∧ Aside0 (Kd.V (Kd.int .u8) 5 w' w.heap.size (fun k_ => k_ ≠ g6 ∧ some k_ ≠ (vs : Value).ownBlock) (vd) (d)) ∧ Aside0 (Kd.V k37 37 w' w.heap.size (fun k_ => k_ ≠ g6 ∧ some k_ ≠ (vs : Value).ownBlock) (vt) (t)) ∧ Aside0 (Kd.V k37 37 w' w.heap.size (fun k_ => k_ ≠ g6 ∧ some k_ ≠ (vs : Value).ownBlock) (vc) (c)) ∧ Aside0 (Kd.V k37 37 w' w.heap.size (fun k_ => k_ ≠ g6 ∧ some k_ ≠ (vs : Value).ownBlock) (va) (ca)) ∧ Aside0 (Kd.N k32 32 w' w.heap.size (fun k_ => k_ ≠ g6) (vs) (se)) ∧ Aside0 (w'.heap[g6]? = some (.cells #[.int .u64 b,vd,vt,vc,.bool fi,.bool ft,.bool fc] 27 (0,0))) ∧ Aside0 (Below w.heap.size w w')) ∧ a' = ⟨#[.slice A0 l0.length c0,.slice A1 l1.length c1,undef,undef,u4,.bool true,.pointer (some ⟨g6,0,none⟩),.int .i64 0,u8,u9,u10,u11,u12,u13,u14,u15,u16,u17,u18,u19,u20,u21,u22,u23,u24,u25,u26,u27,u28,u29,u30,u31,u32,u33,u34,u35,u36,u37,u38,u39,u40,u41,u42,u43,u44,u45,u46,u47,u48,u49,u50,u51,u52,u53,u54,u55,u56,u57,u58,u59,u60,u61,u62,u63,u64,u65,u66,u67,u68,u69,u70,u71,u72,u73,u74,u75,u76,u77,u78,u79,u80,u81,u82,u83,u84,u85,u86,u87,u88,u89,u90,u91,u92,u93,u94,u95,u96,u97,u98,u99,u100,u101,u102,u103,u104,u105,u106,u107,u108,u109,u110,u111,u112,u113,u114,u115,u116,u117,u118,u119,u120,u121,u122,u123,u124,u125,u126,u127,u128,u129,u130,u131,u132,u133,u134,u135,u136,u137,u138,u139,u140,u141,u142,u143,u144,u145,u146,u147,u148,u149,u150,u151,u152,u153,u154,u155,u156,u157,u158,u159,u160,u161,u162,u163,u164,u165,u166,u167,u168,u169,u170,u171,u172,u173,u174,u175,u176,u177,u178,u179,u180,u181,u182,u183,u184,u185,u186,u187,u188,u189,u190,u191,u192,u193,u194,u195,undef,undef,undef,undef,undef],[]⟩) → J kq a' w') :
  Code.wp Try.prog ((Try.f6.body.bind text_loop).getD .skip) (Exit.then K (Exit.inBlock 0 (Exit.then K2 (bodyPost Try.prog Try.f6 R0)))) ⟨#[.slice A0 l0.length c0,.slice A1 l1.length c1,undef,undef,u4,.bool true,.pointer (some ⟨g6,0,none⟩),.int .i64 0,.slice Ax_s se.length p_s,.slice Ax_a ca.length p_a,.int .i64 i,u11,u12,u13,u14,u15,u16,u17,u18,u19,u20,u21,u22,u23,u24,u25,u26,u27,u28,u29,u30,u31,u32,u33,u34,u35,u36,u37,u38,u39,u40,u41,u42,u43,u44,u45,u46,u47,u48,u49,u50,u51,u52,u53,u54,u55,u56,u57,u58,u59,u60,u61,u62,u63,u64,u65,u66,u67,u68,u69,u70,u71,u72,u73,u74,u75,u76,u77,u78,u79,u80,u81,u82,u83,u84,u85,u86,u87,u88,u89,u90,u91,u92,u93,u94,u95,u96,u97,u98,u99,u100,u101,u102,u103,u104,u105,u106,u107,u108,u109,u110,u111,u112,u113,u114,u115,u116,u117,u118,u119,u120,u121,u122,u123,u124,u125,u126,u127,u128,u129,u130,u131,u132,u133,u134,u135,u136,u137,u138,u139,u140,u141,u142,u143,u144,u145,u146,u147,u148,u149,u150,u151,u152,u153,u154,u155,u156,u157,u158,u159,u160,u161,u162,u163,u164,u165,u166,u167,u168,u169,u170,u171,u172,u173,u174,u175,u176,u177,u178,u179,u180,u181,u182,u183,u184,u185,u186,u187,u188,u189,u190,u191,u192,u193,u194,u195,undef,undef,undef,undef,undef],[]⟩ wr:=by
 conv => arg 2;whnf
 have kt : decide (i < 60) = true:=decide_eq_true (by have h_:=HI.out;omega)
 have cb1 : decide (i < (l1.length : Int)) = true:=decide_eq_true ci
 have hq:=HQ.out
 have p0_ : 0 ≤ i:=HI.out.1
 have hi2 : ((i.toNat : Nat) : Int) = i:=by omega
 rw [text_go,hi2,if_pos ci] at hq
 by_cases c5 : d.length < 1000000 ∧ t.length < 1000000 ∧ c.length < 1000000 ∧ 0 ≤ b ∧ b ≤ 1000000 ∧ se.length ≤ i.toNat ∧ ca.length < 1000000
 case neg => rw [if_neg c5] at hq;cases hq
 rw [if_pos c5] at hq
 have HL:=Aside0.mk (show d.length < 1000000 ∧ t.length < 1000000 ∧ c.length < 1000000 ∧ 0 ≤ b ∧ b ≤ 1000000 from ⟨c5.1,c5.2.1,c5.2.2.1,c5.2.2.2.1,c5.2.2.2.2.1⟩)
 have HL2:=Aside0.mk c5.2.2.2.2.2
 have hw : wrap64 (i + 1) = i + 1:=by have h2:=HI.out;unfold wrap64;omega
 have HI2:=Aside0.mk (show (wrap64 (i + 1)).toNat = i.toNat + 1 by rw [hw];have h2:=HI.out;omega)
 obtain ⟨ad,Aq,cq,e_,hx0,hx1,hx2,hx3,hx4,hx5,hx6,hxl,hxC⟩:=at_T48 HR1.out i p0_ ci
 subst e_
 obtain ⟨cl,hcl⟩ : ∃ y_ : S48,rd_T48 l1 i = y_:=⟨_,rfl⟩
 rw [hcl] at hx0 hx1 hx2 hx3 hx4 hx5 hx6 hq hkd
 obtain ⟨kd,fd,sz,lm,nn,fo,ff⟩:=cl
 dsimp only at hx0 hx1 hx2 hx3 hx4 hx5 hx6 hq hkd
 have HKD:=Aside0.mk hkd
 clear hkd
 have HQ:=Aside0.mk hq
 have qi1 : (0 ≤ i) = True:=eq_true p0_
 have qi2 : (i < (l1.length : Int)) = True:=eq_true ci
 clear hq hxl hxC hcl c5 hi2 ci p0_
 replace hx0:=(HB.out.cell (World.block_lt_of_cell? w _ hx0)).trans hx0
 replace hx1:=(HB.out.cell (World.block_lt_of_cell? w _ hx1)).trans hx1
 replace hx2:=(HB.out.cell (World.block_lt_of_cell? w _ hx2)).trans hx2
 replace hx3:=(HB.out.cell (World.block_lt_of_cell? w _ hx3)).trans hx3
 replace hx4:=(HB.out.cell (World.block_lt_of_cell? w _ hx4)).trans hx4
 replace hx5:=(HB.out.cell (World.block_lt_of_cell? w _ hx5)).trans hx5
 replace hx6:=(HB.out.cell (World.block_lt_of_cell? w _ hx6)).trans hx6
 go_upto_region 12 with (first
  | ((with_reducible refine gate_dst (N:=11) rfl ?_);refine box_event ?hg (N:=11) ?hd (cs:=#[.int .i64 0,.slice none 0 0,.int .i64 0,.int .u64 0,.int .i64 0,.int .u64 0,.bool false]) (t:=48) ?hr ?_;(case hd => rfl);(case hg => rfl);(case hr => first | (go_simp;done) | (go_simp;rfl));intro g11 hg w11 hbox hb;have GE_g11:=Aside0.mk (show w.heap.size ≤ g11 by rw [hg];exact HB.out.size);have NB_g6_g11 : g6 ≠ g11:=(by rw [hg];exact Nat.ne_of_lt (blk_lt BK_g6.out));have NB_g11_g6:=NB_g6_g11.symm;replace HCH:=Aside0.mk (And.intro HCH.out (show pz ≤ g11 by rw [hg];exact HS.out));have n28_:=Aside0.mk (below_step HB.out hb);have n29_:=Aside0.mk ((Nat.le_trans (show _ ≤ _ from HS.out) hb.size : pz ≤ w11.heap.size));have n30_:=Aside0.mk (blk_below BK_g6.out hb);have n31_:=Aside0.mk (Kd.V_below O_d.out hb);have n32_:=Aside0.mk (Kd.V_below O_t.out hb);have n33_:=Aside0.mk (Kd.V_below O_c.out hb);have n34_:=Aside0.mk (Kd.V_below O_a.out hb);have n35_:=Aside0.mk (Kd.N_below O_s.out hb);clear HB HS BK_g6 O_d O_t O_c O_a O_s;have HB:=n28_;have HS:=n29_;have BK_g6:=n30_;have O_d:=n31_;have O_t:=n32_;have O_c:=n33_;have O_a:=n34_;have O_s:=n35_;clear n28_ n29_ n30_ n31_ n32_ n33_ n34_ n35_;replace HS:=Aside0.mk (show g11 < w11.heap.size from blk_lt hbox);have BK_g11:=Aside0.mk hbox;clear hbox hb hg;obtain ⟨hx_g11_0,hf_g11_0,hx_g11_1,hf_g11_1,hx_g11_2,hf_g11_2,hx_g11_3,hf_g11_3,hx_g11_4,hf_g11_4,hx_g11_5,hf_g11_5,hx_g11_6,hf_g11_6⟩:=cells7 BK_g11.out))
 clear hx0 hx1 hx2 hx3 hx4 hx5 hx6 qi1 qi2
 clear hx_g11_0 hf_g11_0 hx_g11_1 hf_g11_1 hx_g11_2 hf_g11_2 hx_g11_3 hf_g11_3 hx_g11_4 hf_g11_4 hx_g11_5 hf_g11_5 hx_g11_6 hf_g11_6
 obtain ⟨w12,hw36_⟩ : ∃ w_ : World,set7 w11 g11 (.int .i64 kd) (.slice Aq fd.length cq) (.int .i64 sz) (.int .u64 lm) (.int .i64 nn) (.int .u64 fo) (.bool ff) = w_:=⟨_,rfl⟩
 have n37_:=Aside0.mk (blk7 hw36_ BK_g11.out)
 have n38_:=Aside0.mk (far7 hw36_ NB_g6_g11 BK_g6.out)
 have n39_:=Aside0.mk (text_V7o hw36_ (fun k_ hk_ => by have h_:=HCH.out;omega) O_d.out)
 have n40_:=Aside0.mk (text_V7o hw36_ (fun k_ hk_ => by have h_:=HCH.out;omega) O_t.out)
 have n41_:=Aside0.mk (text_V7o hw36_ (fun k_ hk_ => by have h_:=HCH.out;omega) O_c.out)
 have n42_:=Aside0.mk (text_V7o hw36_ (fun k_ hk_ => by have h_:=HCH.out;omega) O_a.out)
 have n43_:=Aside0.mk (text_N7o hw36_ (fun k_ hk_ => by have h_:=HCH.out;omega) O_s.out)
 have n44_:=Aside0.mk (below7 hw36_ GE_g11.out HB.out)
 have n45_:=Aside0.mk ((text_size7 hw36_).symm ▸ HS.out)
 rw [set7_fold,hw36_]
 clear hw36_ BK_g11 BK_g6 O_d O_t O_c O_a O_s HB HS
 have BK_g11:=n37_
 have BK_g6:=n38_
 have O_d:=n39_
 have O_t:=n40_
 have O_c:=n41_
 have O_a:=n42_
 have O_s:=n43_
 have HB:=n44_
 have HS:=n45_
 clear n37_ n38_ n39_ n40_ n41_ n42_ n43_ n44_ n45_
 have hkd:=HKD.out
 clear HKD
 have kd1 : (kd == 3) = false:=beq_eq_false_iff_ne.mpr hkd
 have kd2 : decide (kd = 3) = false:=decide_eq_false hkd
 have hq:=HQ.out
 rw [if_neg hkd] at hq
 clear HQ hkd
 by_cases c4 : nn < 0 ∨ (se.length : Int) ≤ nn
 case pos =>
  rw [if_pos c4] at hq
  have HQ:=Aside0.mk hq
  clear hq
  by_cases cn1 : nn < 0
  ·have cb2 : decide (nn < 0) = true:=decide_eq_true cn1
   clear c4
   obtain ⟨hx_g11_0,hf_g11_0,hx_g11_1,hf_g11_1,hx_g11_2,hf_g11_2,hx_g11_3,hf_g11_3,hx_g11_4,hf_g11_4,hx_g11_5,hf_g11_5,hx_g11_6,hf_g11_6⟩:=cells7 BK_g11.out
   go_wp2
   go_roundg k1
   case measure => omega
   case rel => exact ⟨wrap64 (i + 1),b,d,t,c,fi,ft,fc,se,ca,_,_,_,_,_,rfl,rfl,(by first | rfl | simp only [hw]),⟨by have h2:=HI.out;rw [hw];omega⟩,⟨by rw [HI2.out];exact HQ.out⟩,⟨Kd.V_mono O_d.out (fun k_ hk_ => hk_.1)⟩,⟨Kd.V_mono O_t.out (fun k_ hk_ => hk_.1)⟩,⟨Kd.V_mono O_c.out (fun k_ hk_ => hk_.1)⟩,⟨Kd.V_mono O_a.out (fun k_ hk_ => hk_.1)⟩,⟨Kd.N_mono O_s.out (fun k_ hk_ => hk_.1)⟩,BK_g6,HB⟩
  ·have cb2 : decide (nn < 0) = false:=decide_eq_false cn1
   have cn2 : nn ≥ (se.length : Int):=by omega
   have cb3 : decide (nn ≥ (se.length : Int)) = true:=decide_eq_true cn2
   have cb4 : decide ((se.length : Int) ≤ nn) = true:=decide_eq_true cn2
   clear c4
   obtain ⟨hx_g11_0,hf_g11_0,hx_g11_1,hf_g11_1,hx_g11_2,hf_g11_2,hx_g11_3,hf_g11_3,hx_g11_4,hf_g11_4,hx_g11_5,hf_g11_5,hx_g11_6,hf_g11_6⟩:=cells7 BK_g11.out
   go_wp2
   go_roundg k1
   case measure => omega
   case rel => exact ⟨wrap64 (i + 1),b,d,t,c,fi,ft,fc,se,ca,_,_,_,_,_,rfl,rfl,(by first | rfl | simp only [hw]),⟨by have h2:=HI.out;rw [hw];omega⟩,⟨by rw [HI2.out];exact HQ.out⟩,⟨Kd.V_mono O_d.out (fun k_ hk_ => hk_.1)⟩,⟨Kd.V_mono O_t.out (fun k_ hk_ => hk_.1)⟩,⟨Kd.V_mono O_c.out (fun k_ hk_ => hk_.1)⟩,⟨Kd.V_mono O_a.out (fun k_ hk_ => hk_.1)⟩,⟨Kd.N_mono O_s.out (fun k_ hk_ => hk_.1)⟩,BK_g6,HB⟩
 case neg =>
  rw [if_neg c4] at hq
  have pn_ : 0 ≤ nn:=by omega
  have qn_ : nn < (se.length : Int):=by omega
  have cb2 : decide (nn < 0) = false:=decide_eq_false (by omega)
  have cb3 : decide (nn ≥ (se.length : Int)) = false:=decide_eq_false (by omega)
  have cb4 : decide ((se.length : Int) ≤ nn) = false:=decide_eq_false (by omega)
  obtain ⟨ae,Me,ce,e_,hy0,hy1,hy2,hyl,hyC⟩:=at_T32 (Kd.N_reads' O_s.out).2.2 nn pn_ qn_
  subst e_
  obtain ⟨ch,hch⟩ : ∃ y_ : S32,rd_T32 se nn = y_:=⟨_,rfl⟩
  rw [hch] at hy0 hy1 hy2 hyl hyC hq
  have HCE:=Aside0.mk hch
  have HPN:=Aside0.mk (And.intro pn_ qn_)
  obtain ⟨eo_,em,ef⟩:=ch
  dsimp only at hy0 hy1 hy2 hyl hyC hq
  have HY0:=Aside0.mk hy0
  have HY1:=Aside0.mk hy1
  have HY2:=Aside0.mk hy2
  have HYC:=Aside0.mk hyC
  have HYL:=Aside0.mk hyl
  have qn1 : (0 ≤ nn) = True:=eq_true pn_
  have qn2 : (nn < (se.length : Int)) = True:=eq_true qn_
  clear hy0 hy1 hy2 hyC hyl hch c4 pn_ qn_
  by_cases ck4 : kd = 4
  case pos =>
   subst ck4
   rw [if_pos rfl] at hq
   replace hq:=Option.bind_eq_some_iff.mp hq
   obtain ⟨⟨b3,d3,t3,c3,fi3,ft3,fc3⟩,hC,hq⟩:=hq
   dsimp only at hq
   have HQ:=Aside0.mk hq
   have HC_:=Aside0.mk hC
   clear hq hC
   obtain ⟨hx_g11_0,hf_g11_0,hx_g11_1,hf_g11_1,hx_g11_2,hf_g11_2,hx_g11_3,hf_g11_3,hx_g11_4,hf_g11_4,hx_g11_5,hf_g11_5,hx_g11_6,hf_g11_6⟩:=cells7 BK_g11.out
   go_upto_region 30 with fail
   clear hx_g11_0 hf_g11_0 hx_g11_1 hf_g11_1 hx_g11_2 hf_g11_2 hx_g11_3 hf_g11_3 hx_g11_4 hf_g11_4 hx_g11_5 hf_g11_5 hx_g11_6 hf_g11_6
   have n46_:=Aside0.mk (below_drew1 HB.out)
   have n47_:=Aside0.mk ((show g11 < w12.drew.heap.size from HS.out))
   have n48_:=Aside0.mk (blk_drew BK_g6.out)
   have n49_:=Aside0.mk (blk_drew BK_g11.out)
   have n50_:=Aside0.mk (Kd.V_drew O_d.out)
   have n51_:=Aside0.mk (Kd.V_drew O_t.out)
   have n52_:=Aside0.mk (Kd.V_drew O_c.out)
   have n53_:=Aside0.mk (Kd.V_drew O_a.out)
   have n54_:=Aside0.mk (Kd.N_drew O_s.out)
   have n55_:=Aside0.mk ((show w12.drew.cell? (ae.add (nn.toNat * 3)) = some (.int .u64 eo_) from HY0.out))
   have n56_:=Aside0.mk ((show w12.drew.cell? ⟨(ae.add (nn.toNat * 3)).block,(ae.add (nn.toNat * 3)).off + 1,none⟩ = some (.slice Me em.length ce) from HY1.out))
   have n57_:=Aside0.mk ((show w12.drew.cell? ⟨(ae.add (nn.toNat * 3)).block,(ae.add (nn.toNat * 3)).off + 2,none⟩ = some (.bool ef) from HY2.out))
   have n58_:=Aside0.mk (Kd.C_drew HYC.out)
   clear HB HS BK_g6 BK_g11 O_d O_t O_c O_a O_s HY0 HY1 HY2 HYC
   have HB:=n46_
   have HS:=n47_
   have BK_g6:=n48_
   have BK_g11:=n49_
   have O_d:=n50_
   have O_t:=n51_
   have O_c:=n52_
   have O_a:=n53_
   have O_s:=n54_
   have HY0:=n55_
   have HY1:=n56_
   have HY2:=n57_
   have HYC:=n58_
   clear n46_ n47_ n48_ n49_ n50_ n51_ n52_ n53_ n54_ n55_ n56_ n57_ n58_
   (try simp only [Act.put,List.setIfInBounds_toArray,List.set_cons_zero,List.set_cons_succ])
   refine start_ (n:=8) (S:=fun w' => w'.cell? ⟨g6,0,none⟩ = some (.int .u64 b) ∧ w'.cell? ⟨g6,1,none⟩ = some (.slice Ax_d d.length p_d) ∧ w'.cell? ⟨g6,2,none⟩ = some (.slice Ax_t t.length p_t) ∧ w'.cell? ⟨g6,3,none⟩ = some (.slice Ax_c c.length p_c) ∧ w'.cell? ⟨g6,4,none⟩ = some (.bool fi) ∧ w'.cell? ⟨g6,5,none⟩ = some (.bool ft) ∧ w'.cell? ⟨g6,6,none⟩ = some (.bool fc) ∧ w'.cell? ⟨g11,0,none⟩ = some (.int .i64 4) ∧ w'.cell? ⟨g11,1,none⟩ = some (.slice Aq fd.length cq) ∧ w'.cell? ⟨g11,2,none⟩ = some (.int .i64 sz) ∧ w'.cell? ⟨g11,3,none⟩ = some (.int .u64 lm) ∧ w'.cell? ⟨g11,4,none⟩ = some (.int .i64 nn) ∧ w'.cell? ⟨g11,5,none⟩ = some (.int .u64 fo) ∧ w'.cell? ⟨g11,6,none⟩ = some (.bool ff) ∧ w'.cell? (ae.add (nn.toNat * 3)) = some (.int .u64 eo_) ∧ w'.cell? ⟨(ae.add (nn.toNat * 3)).block,(ae.add (nn.toNat * 3)).off + 1,none⟩ = some (.slice Me em.length ce) ∧ w'.cell? ⟨(ae.add (nn.toNat * 3)).block,(ae.add (nn.toNat * 3)).off + 2,none⟩ = some (.bool ef)) (ds:=[7]) #[false,false,false,false,false,false,false,false] (by kernel_rfl) rfl rfl ⟨(blk_cell BK_g6.out 0).trans rfl,(blk_cell BK_g6.out 1).trans rfl,(blk_cell BK_g6.out 2).trans rfl,(blk_cell BK_g6.out 3).trans rfl,(blk_cell BK_g6.out 4).trans rfl,(blk_cell BK_g6.out 5).trans rfl,(blk_cell BK_g6.out 6).trans rfl,(blk_cell BK_g11.out 0).trans rfl,(blk_cell BK_g11.out 1).trans rfl,(blk_cell BK_g11.out 2).trans rfl,(blk_cell BK_g11.out 3).trans rfl,(blk_cell BK_g11.out 4).trans rfl,(blk_cell BK_g11.out 5).trans rfl,(blk_cell BK_g11.out 6).trans rfl,HY0.out,HY1.out,HY2.out⟩ (fun hHeld => ?_)
   generalize w12.drew = w20 at HB HS HY0 HY1 HY2 HYC BK_g6 BK_g11 O_d O_t O_c O_a O_s hHeld ⊢
   refine pure_ (i:=1) (N:=some 156) (v:=?_) (a':=?_) #[false,true,false,false,false,false,false,false] rfl rfl (by kernel_rfl) (fun _ _ _ h => h) (Or.inl ⟨by rfl,?_⟩) ?_ ?_
   rotate_left
   ·intro w'
    go_simp
    with_reducible rfl
   rotate_left
   ·simp only [Act.put,List.setIfInBounds_toArray,List.set_cons_zero,List.set_cons_succ,i64_w,i32_w]
    rfl
   refine pure_ (i:=2) (N:=some 157) (v:=?_) (a':=?_) #[false,true,true,false,false,false,false,false] rfl rfl (by kernel_rfl) (fun _ _ _ h => h) (Or.inl ⟨by rfl,?_⟩) ?_ ?_
   rotate_left
   ·intro w'
    go_simp
    with_reducible rfl
   rotate_left
   ·simp only [Act.put,List.setIfInBounds_toArray,List.set_cons_zero,List.set_cons_succ,i64_w,i32_w]
    rfl
   refine take_ (i:=0) (N:=some 155) (v:=?_) (a':=?_) #[true,true,true,false,false,false,false,false] rfl rfl (by kernel_rfl) (fun _ _ _ h => h) (Or.inl ⟨by rfl,?_⟩) hHeld ?_ ?_
   rotate_left
   ·rintro w' ⟨s0,s1,s2,s3,s4,s5,s6,s7,s8,s9,s10,s11,s12,s13,s14,s15,s16⟩
    go_simp
    with_reducible rfl
   rotate_left
   ·simp only [Act.put,List.setIfInBounds_toArray,List.set_cons_zero,List.set_cons_succ,i64_w,i32_w]
    rfl
   refine take_ (i:=3) (N:=some 158) (v:=?_) (a':=?_) #[true,true,true,true,false,false,false,false] rfl rfl (by kernel_rfl) (fun _ _ _ h => h) (Or.inl ⟨by rfl,?_⟩) hHeld ?_ ?_
   rotate_left
   ·rintro w' ⟨s0,s1,s2,s3,s4,s5,s6,s7,s8,s9,s10,s11,s12,s13,s14,s15,s16⟩
    go_simp
    with_reducible rfl
   rotate_left
   ·simp only [Act.put,List.setIfInBounds_toArray,List.set_cons_zero,List.set_cons_succ,i64_w,i32_w]
    rfl
   refine pure_ (i:=4) (N:=some 159) (v:=?_) (a':=?_) #[true,true,true,true,true,false,false,false] rfl rfl (by kernel_rfl) (fun _ _ _ h => h) (Or.inl ⟨by rfl,?_⟩) ?_ ?_
   rotate_left
   ·intro w'
    go_simp
    with_reducible rfl
   rotate_left
   ·simp only [Act.put,List.setIfInBounds_toArray,List.set_cons_zero,List.set_cons_succ,i64_w,i32_w]
    rfl
   refine take_ (i:=5) (N:=some 160) (v:=?_) (a':=?_) #[true,true,true,true,true,true,false,false] rfl rfl (by kernel_rfl) (fun _ _ _ h => h) (Or.inl ⟨by rfl,?_⟩) hHeld ?_ ?_
   rotate_left
   ·rintro w' ⟨s0,s1,s2,s3,s4,s5,s6,s7,s8,s9,s10,s11,s12,s13,s14,s15,s16⟩
    go_simp
    with_reducible rfl
   rotate_left
   ·simp only [Act.put,List.setIfInBounds_toArray,List.set_cons_zero,List.set_cons_succ,i64_w,i32_w]
    rfl
   refine one_ (i:=6) (N:=some 161) #[true,true,true,true,true,true,true,false] rfl rfl (by kernel_rfl) (by decide) (fun K hK => ?_)
   refine goes_ Try.func12 (by kernel_rfl) rfl #[.agg #[.int .u64 b,.slice Ax_d d.length p_d,.slice Ax_t t.length p_t,.slice Ax_c c.length p_c,.bool fi,.bool ft,.bool fc],.agg #[.int .u64 eo_,.slice Me em.length ce,.bool ef]] (by rfl) rfl rfl (by (try simp only [List.map_toArray,List.map_cons,List.map_nil]);first | done | rfl) ?_
   refine (supply_Lost.calls k b _ _ d _ _ t _ _ c fi ft fc eo_ _ _ em ef _ _ _ _ _ _ _ _ (Kd.V_reads' O_d.out).2.2 (Kd.V_reads' O_d.out).2.1 (Kd.V_reads' O_t.out).2.2 (Kd.V_reads' O_t.out).2.1 (Kd.V_reads' O_c.out).2.2 (Kd.V_reads' O_c.out).2.1 HYC.out HYL.out HC_.out).mono ?_
   rintro e_ w21 ⟨u1,u2,u3,rfl,ho1,ho2,ho3,hb⟩
   refine ⟨_,rfl,?_⟩
   obtain ⟨pl,hpl⟩ : ∃ n_ : Nat,n_ = w20.heap.size:=⟨_,rfl⟩
   obtain ⟨ql,hql⟩ : ∃ n_ : Nat,n_ = w21.heap.size:=⟨_,rfl⟩
   replace HCH:=Aside0.mk (And.intro HCH.out (show g11 < pl ∧ pl ≤ ql by have h_:=HS.out;have h2_:=hb.size;omega))
   have O_d_l:=Aside0.mk (Kd.R_V (base':=w20.heap.size) (Kd.R_mono (Kd.R_bound ho1) (ok':=fun k_ => pl ≤ k_ ∧ k_ < ql) (fun k_ hk_ => ⟨by rw [hpl];exact hk_.2.1,by rw [hql];exact hk_.2.2.1⟩)))
   have O_t_l:=Aside0.mk (Kd.R_V (base':=w20.heap.size) (Kd.R_mono (Kd.R_bound ho2) (ok':=fun k_ => pl ≤ k_ ∧ k_ < ql) (fun k_ hk_ => ⟨by rw [hpl];exact hk_.2.1,by rw [hql];exact hk_.2.2.1⟩)))
   have O_c_l:=Aside0.mk (Kd.R_V (base':=w20.heap.size) (Kd.R_mono (Kd.R_bound ho3) (ok':=fun k_ => pl ≤ k_ ∧ k_ < ql) (fun k_ hk_ => ⟨by rw [hpl];exact hk_.2.1,by rw [hql];exact hk_.2.2.1⟩)))
   clear ho1 ho2 ho3
   have n59_:=Aside0.mk (below_step HB.out hb)
   have n60_:=Aside0.mk ((Nat.lt_of_lt_of_le (show _ < _ from HS.out) hb.size : g11 < w21.heap.size))
   have n61_:=Aside0.mk (blk_below BK_g6.out hb)
   have n62_:=Aside0.mk (blk_below BK_g11.out hb)
   have n63_:=Aside0.mk (Kd.V_below O_d.out hb)
   have n64_:=Aside0.mk (Kd.V_below O_t.out hb)
   have n65_:=Aside0.mk (Kd.V_below O_c.out hb)
   have n66_:=Aside0.mk (Kd.V_below O_a.out hb)
   have n67_:=Aside0.mk (Kd.N_below O_s.out hb)
   clear HB HS BK_g6 BK_g11 O_d O_t O_c O_a O_s
   have HB:=n59_
   have HS:=n60_
   have BK_g6:=n61_
   have BK_g11:=n62_
   have O_d:=n63_
   have O_t:=n64_
   have O_c:=n65_
   have O_a:=n66_
   have O_s:=n67_
   clear n59_ n60_ n61_ n62_ n63_ n64_ n65_ n66_ n67_
   replace HS:=Aside0.mk (show ql ≤ w21.heap.size by rw [hql];exact Nat.le_refl _)
   have n68_:=Aside0.mk ((hb.cell (World.block_lt_of_cell? _ _ HY0.out)).trans HY0.out)
   have n69_:=Aside0.mk ((hb.cell (World.block_lt_of_cell? _ _ HY1.out)).trans HY1.out)
   have n70_:=Aside0.mk ((hb.cell (World.block_lt_of_cell? _ _ HY2.out)).trans HY2.out)
   have n71_:=Aside0.mk (Kd.C_below HYC.out hb)
   clear HY0 HY1 HY2 HYC
   have HY0:=n68_
   have HY1:=n69_
   have HY2:=n70_
   have HYC:=n71_
   clear n68_ n69_ n70_ n71_
   clear hb hpl hql
   obtain ⟨Al,p_l,eo⟩:=Kd.V_slice O_d_l.out
   subst eo
   obtain ⟨Bl,q_l,eo⟩:=Kd.V_slice O_t_l.out
   subst eo
   obtain ⟨Cl,r_l,eo⟩:=Kd.V_slice O_c_l.out
   subst eo
   obtain ⟨hx_g6_0,hf_g6_0,hx_g6_1,hf_g6_1,hx_g6_2,hf_g6_2,hx_g6_3,hf_g6_3,hx_g6_4,hf_g6_4,hx_g6_5,hf_g6_5,hx_g6_6,hf_g6_6⟩:=cells7 BK_g6.out
   refine hK.out _ _ ⟨(blk_cell BK_g6.out 0).trans rfl,(blk_cell BK_g6.out 1).trans rfl,(blk_cell BK_g6.out 2).trans rfl,(blk_cell BK_g6.out 3).trans rfl,(blk_cell BK_g6.out 4).trans rfl,(blk_cell BK_g6.out 5).trans rfl,(blk_cell BK_g6.out 6).trans rfl,(blk_cell BK_g11.out 0).trans rfl,(blk_cell BK_g11.out 1).trans rfl,(blk_cell BK_g11.out 2).trans rfl,(blk_cell BK_g11.out 3).trans rfl,(blk_cell BK_g11.out 4).trans rfl,(blk_cell BK_g11.out 5).trans rfl,(blk_cell BK_g11.out 6).trans rfl,HY0.out,HY1.out,HY2.out⟩ (fun hHeld => ?_)
   clear hK K
   refine norm_ (a':=?_) ?_ ?_
   rotate_left
   ·show Act.put _ (some 161) _ = _
    simp only [Act.put,List.setIfInBounds_toArray,List.set_cons_zero,List.set_cons_succ,i64_w,i32_w]
    rfl
   refine last_ (i:=7) (N:=none) #[true,true,true,true,true,true,true,true] rfl rfl (by kernel_rfl) (by decide) (fun K hK => ?_)
   refine skip_ (w1:=?_) (by rfl) rfl ?_ ?_
   rotate_left
   ·go_simp
    rfl
   refine hK.out _ _ ?_
   clear hK K
   refine done_ (by kernel_rfl) ?_
   clear hx_g6_0 hf_g6_0 hx_g6_1 hf_g6_1 hx_g6_2 hf_g6_2 hx_g6_3 hf_g6_3 hx_g6_4 hf_g6_4 hx_g6_5 hf_g6_5 hx_g6_6 hf_g6_6
   obtain ⟨w22,hw72_⟩ : ∃ w_ : World,set7 w21 g6 (.int .u64 b3) (.slice Al d3.length p_l) (.slice Bl t3.length q_l) (.slice Cl c3.length r_l) (.bool fi3) (.bool ft3) (.bool fc3) = w_:=⟨_,rfl⟩
   have n73_:=Aside0.mk (blk7 hw72_ BK_g6.out)
   have n74_:=Aside0.mk (far7 hw72_ NB_g11_g6 BK_g11.out)
   have n75_:=Aside0.mk (text_V7o hw72_ (fun k_ hk_ => by have h_:=HCH.out;omega) O_d.out)
   have n76_:=Aside0.mk (text_V7o hw72_ (fun k_ hk_ => by have h_:=HCH.out;omega) O_t.out)
   have n77_:=Aside0.mk (text_V7o hw72_ (fun k_ hk_ => by have h_:=HCH.out;omega) O_c.out)
   have n78_:=Aside0.mk (text_V7o hw72_ (fun k_ hk_ => by have h_:=HCH.out;omega) O_a.out)
   have n79_:=Aside0.mk (text_N7o hw72_ (fun k_ hk_ => by have h_:=HCH.out;omega) O_s.out)
   have n80_:=Aside0.mk (text_V7o hw72_ (fun k_ hk_ => by have h_:=HCH.out;omega) O_d_l.out)
   have n81_:=Aside0.mk (text_V7o hw72_ (fun k_ hk_ => by have h_:=HCH.out;omega) O_t_l.out)
   have n82_:=Aside0.mk (text_V7o hw72_ (fun k_ hk_ => by have h_:=HCH.out;omega) O_c_l.out)
   have n83_:=Aside0.mk (below7 hw72_ GE_g6.out HB.out)
   have n84_:=Aside0.mk ((text_size7 hw72_).symm ▸ HS.out)
   rw [set7_fold,hw72_]
   clear hw72_ BK_g6 BK_g11 O_d O_t O_c O_a O_s O_d_l O_t_l O_c_l HB HS
   have BK_g6:=n73_
   have BK_g11:=n74_
   have O_d:=n75_
   have O_t:=n76_
   have O_c:=n77_
   have O_a:=n78_
   have O_s:=n79_
   have O_d_l:=n80_
   have O_t_l:=n81_
   have O_c_l:=n82_
   have HB:=n83_
   have HS:=n84_
   clear n73_ n74_ n75_ n76_ n77_ n78_ n79_ n80_ n81_ n82_ n83_ n84_
   obtain ⟨hx_g11_0,hf_g11_0,hx_g11_1,hf_g11_1,hx_g11_2,hf_g11_2,hx_g11_3,hf_g11_3,hx_g11_4,hf_g11_4,hx_g11_5,hf_g11_5,hx_g11_6,hf_g11_6⟩:=cells7 BK_g11.out
   go_wp2
   go_roundg k1
   case measure => omega
   case rel => exact ⟨wrap64 (i + 1),b3,d3,t3,c3,fi3,ft3,fc3,se,ca,_,_,_,_,_,rfl,rfl,(by first | rfl | simp only [hw]),⟨by have h2:=HI.out;rw [hw];omega⟩,⟨by rw [HI2.out];exact HQ.out⟩,⟨Kd.V_mono O_d_l.out (fun k_ hk_ => ⟨by have h_:=HCH.out;omega,fun he_ => by have h_:=HVS.out k_ he_.symm;have h2_:=HCH.out;omega⟩)⟩,⟨Kd.V_mono O_t_l.out (fun k_ hk_ => ⟨by have h_:=HCH.out;omega,fun he_ => by have h_:=HVS.out k_ he_.symm;have h2_:=HCH.out;omega⟩)⟩,⟨Kd.V_mono O_c_l.out (fun k_ hk_ => ⟨by have h_:=HCH.out;omega,fun he_ => by have h_:=HVS.out k_ he_.symm;have h2_:=HCH.out;omega⟩)⟩,⟨Kd.V_mono O_a.out (fun k_ hk_ => hk_.1)⟩,⟨Kd.N_mono O_s.out (fun k_ hk_ => hk_.1)⟩,BK_g6,HB⟩
  case neg =>
   rw [if_neg ck4] at hq
   have kd3 : (kd == 4) = false:=beq_eq_false_iff_ne.mpr ck4
   have kd4 : decide (kd = 4) = false:=decide_eq_false ck4
   clear ck4
   by_cases ck5 : kd = 5
   case neg =>
    rw [if_neg ck5] at hq
    have HQ:=Aside0.mk hq
    have kd5 : (kd == 5) = false:=beq_eq_false_iff_ne.mpr ck5
    have kd6 : decide (kd = 5) = false:=decide_eq_false ck5
    clear hq ck5
    obtain ⟨hx_g11_0,hf_g11_0,hx_g11_1,hf_g11_1,hx_g11_2,hf_g11_2,hx_g11_3,hf_g11_3,hx_g11_4,hf_g11_4,hx_g11_5,hf_g11_5,hx_g11_6,hf_g11_6⟩:=cells7 BK_g11.out
    go_wp2
    go_roundg k1
    case measure => omega
    case rel => exact ⟨wrap64 (i + 1),b,d,t,c,fi,ft,fc,se,ca,_,_,_,_,_,rfl,rfl,(by first | rfl | simp only [hw]),⟨by have h2:=HI.out;rw [hw];omega⟩,⟨by rw [HI2.out];exact HQ.out⟩,⟨Kd.V_mono O_d.out (fun k_ hk_ => hk_.1)⟩,⟨Kd.V_mono O_t.out (fun k_ hk_ => hk_.1)⟩,⟨Kd.V_mono O_c.out (fun k_ hk_ => hk_.1)⟩,⟨Kd.V_mono O_a.out (fun k_ hk_ => hk_.1)⟩,⟨Kd.N_mono O_s.out (fun k_ hk_ => hk_.1)⟩,BK_g6,HB⟩
   case pos =>
    subst ck5
    rw [if_pos rfl] at hq
    replace hq:=Option.bind_eq_some_iff.mp hq
    obtain ⟨⟨b3,d3,t3,c3,fi3,ft3,fc3⟩,hC,hq⟩:=hq
    dsimp only at hq
    by_cases c8 : 0 ≤ eo_ ∧ eo_ + (em.length : Int) ≤ 1000000
    case neg => rw [if_neg c8] at hq;cases hq
    rw [if_pos c8] at hq
    replace hq:=Option.bind_eq_some_iff.mp hq
    obtain ⟨ca2,hA,hq⟩:=hq
    have HQ:=Aside0.mk hq
    have HC_:=Aside0.mk hC
    obtain ⟨en,hen⟩ : ∃ y_ : Int,eo_ + (em.length : Int) = y_:=⟨_,rfl⟩
    rw [hen] at hA
    have HA_:=Aside0.mk hA
    have u1_ : IntKind.u64.wrap (em.length : Int) = (em.length : Int):=by rw [IntKind.wrap_u64];omega
    have u2_ : IntKind.u64.wrap (eo_ + (em.length : Int)) = en:=by rw [hen,IntKind.wrap_u64];omega
    clear hq hC hA hen c8
    obtain ⟨hx_g11_0,hf_g11_0,hx_g11_1,hf_g11_1,hx_g11_2,hf_g11_2,hx_g11_3,hf_g11_3,hx_g11_4,hf_g11_4,hx_g11_5,hf_g11_5,hx_g11_6,hf_g11_6⟩:=cells7 BK_g11.out
    go_upto_region 32 with fail
    clear hx_g11_0 hf_g11_0 hx_g11_1 hf_g11_1 hx_g11_2 hf_g11_2 hx_g11_3 hf_g11_3 hx_g11_4 hf_g11_4 hx_g11_5 hf_g11_5 hx_g11_6 hf_g11_6
    have n46_:=Aside0.mk (below_drew1 HB.out)
    have n47_:=Aside0.mk ((show g11 < w12.drew.heap.size from HS.out))
    have n48_:=Aside0.mk (blk_drew BK_g6.out)
    have n49_:=Aside0.mk (blk_drew BK_g11.out)
    have n50_:=Aside0.mk (Kd.V_drew O_d.out)
    have n51_:=Aside0.mk (Kd.V_drew O_t.out)
    have n52_:=Aside0.mk (Kd.V_drew O_c.out)
    have n53_:=Aside0.mk (Kd.V_drew O_a.out)
    have n54_:=Aside0.mk (Kd.N_drew O_s.out)
    have n55_:=Aside0.mk ((show w12.drew.cell? (ae.add (nn.toNat * 3)) = some (.int .u64 eo_) from HY0.out))
    have n56_:=Aside0.mk ((show w12.drew.cell? ⟨(ae.add (nn.toNat * 3)).block,(ae.add (nn.toNat * 3)).off + 1,none⟩ = some (.slice Me em.length ce) from HY1.out))
    have n57_:=Aside0.mk ((show w12.drew.cell? ⟨(ae.add (nn.toNat * 3)).block,(ae.add (nn.toNat * 3)).off + 2,none⟩ = some (.bool ef) from HY2.out))
    have n58_:=Aside0.mk (Kd.C_drew HYC.out)
    clear HB HS BK_g6 BK_g11 O_d O_t O_c O_a O_s HY0 HY1 HY2 HYC
    have HB:=n46_
    have HS:=n47_
    have BK_g6:=n48_
    have BK_g11:=n49_
    have O_d:=n50_
    have O_t:=n51_
    have O_c:=n52_
    have O_a:=n53_
    have O_s:=n54_
    have HY0:=n55_
    have HY1:=n56_
    have HY2:=n57_
    have HYC:=n58_
    clear n46_ n47_ n48_ n49_ n50_ n51_ n52_ n53_ n54_ n55_ n56_ n57_ n58_
    (try simp only [Act.put,List.setIfInBounds_toArray,List.set_cons_zero,List.set_cons_succ])
    refine start_ (n:=8) (S:=fun w' => w'.cell? ⟨g6,0,none⟩ = some (.int .u64 b) ∧ w'.cell? ⟨g6,1,none⟩ = some (.slice Ax_d d.length p_d) ∧ w'.cell? ⟨g6,2,none⟩ = some (.slice Ax_t t.length p_t) ∧ w'.cell? ⟨g6,3,none⟩ = some (.slice Ax_c c.length p_c) ∧ w'.cell? ⟨g6,4,none⟩ = some (.bool fi) ∧ w'.cell? ⟨g6,5,none⟩ = some (.bool ft) ∧ w'.cell? ⟨g6,6,none⟩ = some (.bool fc) ∧ w'.cell? ⟨g11,0,none⟩ = some (.int .i64 5) ∧ w'.cell? ⟨g11,1,none⟩ = some (.slice Aq fd.length cq) ∧ w'.cell? ⟨g11,2,none⟩ = some (.int .i64 sz) ∧ w'.cell? ⟨g11,3,none⟩ = some (.int .u64 lm) ∧ w'.cell? ⟨g11,4,none⟩ = some (.int .i64 nn) ∧ w'.cell? ⟨g11,5,none⟩ = some (.int .u64 fo) ∧ w'.cell? ⟨g11,6,none⟩ = some (.bool ff) ∧ w'.cell? (ae.add (nn.toNat * 3)) = some (.int .u64 eo_) ∧ w'.cell? ⟨(ae.add (nn.toNat * 3)).block,(ae.add (nn.toNat * 3)).off + 1,none⟩ = some (.slice Me em.length ce) ∧ w'.cell? ⟨(ae.add (nn.toNat * 3)).block,(ae.add (nn.toNat * 3)).off + 2,none⟩ = some (.bool ef)) (ds:=[7]) #[false,false,false,false,false,false,false,false] (by kernel_rfl) rfl rfl ⟨(blk_cell BK_g6.out 0).trans rfl,(blk_cell BK_g6.out 1).trans rfl,(blk_cell BK_g6.out 2).trans rfl,(blk_cell BK_g6.out 3).trans rfl,(blk_cell BK_g6.out 4).trans rfl,(blk_cell BK_g6.out 5).trans rfl,(blk_cell BK_g6.out 6).trans rfl,(blk_cell BK_g11.out 0).trans rfl,(blk_cell BK_g11.out 1).trans rfl,(blk_cell BK_g11.out 2).trans rfl,(blk_cell BK_g11.out 3).trans rfl,(blk_cell BK_g11.out 4).trans rfl,(blk_cell BK_g11.out 5).trans rfl,(blk_cell BK_g11.out 6).trans rfl,HY0.out,HY1.out,HY2.out⟩ (fun hHeld => ?_)
    generalize w12.drew = w20 at HB HS HY0 HY1 HY2 HYC BK_g6 BK_g11 O_d O_t O_c O_a O_s hHeld ⊢
    refine pure_ (i:=1) (N:=some 166) (v:=?_) (a':=?_) #[false,true,false,false,false,false,false,false] rfl rfl (by kernel_rfl) (fun _ _ _ h => h) (Or.inl ⟨by rfl,?_⟩) ?_ ?_
    rotate_left
    ·intro w'
     go_simp
     with_reducible rfl
    rotate_left
    ·simp only [Act.put,List.setIfInBounds_toArray,List.set_cons_zero,List.set_cons_succ,i64_w,i32_w]
     rfl
    refine pure_ (i:=2) (N:=some 167) (v:=?_) (a':=?_) #[false,true,true,false,false,false,false,false] rfl rfl (by kernel_rfl) (fun _ _ _ h => h) (Or.inl ⟨by rfl,?_⟩) ?_ ?_
    rotate_left
    ·intro w'
     go_simp
     with_reducible rfl
    rotate_left
    ·simp only [Act.put,List.setIfInBounds_toArray,List.set_cons_zero,List.set_cons_succ,i64_w,i32_w]
     rfl
    refine take_ (i:=0) (N:=some 165) (v:=?_) (a':=?_) #[true,true,true,false,false,false,false,false] rfl rfl (by kernel_rfl) (fun _ _ _ h => h) (Or.inl ⟨by rfl,?_⟩) hHeld ?_ ?_
    rotate_left
    ·rintro w' ⟨s0,s1,s2,s3,s4,s5,s6,s7,s8,s9,s10,s11,s12,s13,s14,s15,s16⟩
     go_simp
     with_reducible rfl
    rotate_left
    ·simp only [Act.put,List.setIfInBounds_toArray,List.set_cons_zero,List.set_cons_succ,i64_w,i32_w]
     rfl
    refine take_ (i:=3) (N:=some 168) (v:=?_) (a':=?_) #[true,true,true,true,false,false,false,false] rfl rfl (by kernel_rfl) (fun _ _ _ h => h) (Or.inl ⟨by rfl,?_⟩) hHeld ?_ ?_
    rotate_left
    ·rintro w' ⟨s0,s1,s2,s3,s4,s5,s6,s7,s8,s9,s10,s11,s12,s13,s14,s15,s16⟩
     go_simp
     with_reducible rfl
    rotate_left
    ·simp only [Act.put,List.setIfInBounds_toArray,List.set_cons_zero,List.set_cons_succ,i64_w,i32_w]
     rfl
    refine pure_ (i:=4) (N:=some 169) (v:=?_) (a':=?_) #[true,true,true,true,true,false,false,false] rfl rfl (by kernel_rfl) (fun _ _ _ h => h) (Or.inl ⟨by rfl,?_⟩) ?_ ?_
    rotate_left
    ·intro w'
     go_simp
     with_reducible rfl
    rotate_left
    ·simp only [Act.put,List.setIfInBounds_toArray,List.set_cons_zero,List.set_cons_succ,i64_w,i32_w]
     rfl
    refine take_ (i:=5) (N:=some 170) (v:=?_) (a':=?_) #[true,true,true,true,true,true,false,false] rfl rfl (by kernel_rfl) (fun _ _ _ h => h) (Or.inl ⟨by rfl,?_⟩) hHeld ?_ ?_
    rotate_left
    ·rintro w' ⟨s0,s1,s2,s3,s4,s5,s6,s7,s8,s9,s10,s11,s12,s13,s14,s15,s16⟩
     go_simp
     with_reducible rfl
    rotate_left
    ·simp only [Act.put,List.setIfInBounds_toArray,List.set_cons_zero,List.set_cons_succ,i64_w,i32_w]
     rfl
    refine one_ (i:=6) (N:=some 171) #[true,true,true,true,true,true,true,false] rfl rfl (by kernel_rfl) (by decide) (fun K hK => ?_)
    refine goes_ Try.func11 (by kernel_rfl) rfl #[.agg #[.int .u64 b,.slice Ax_d d.length p_d,.slice Ax_t t.length p_t,.slice Ax_c c.length p_c,.bool fi,.bool ft,.bool fc],.agg #[.int .u64 eo_,.slice Me em.length ce,.bool ef]] (by rfl) rfl rfl (by (try simp only [List.map_toArray,List.map_cons,List.map_nil]);first | done | rfl) ?_
    refine (supply_Came.calls k b _ _ d _ _ t _ _ c fi ft fc eo_ _ _ em ef _ _ _ _ _ _ _ _ (Kd.V_reads' O_d.out).2.2 (Kd.V_reads' O_d.out).2.1 (Kd.V_reads' O_t.out).2.2 (Kd.V_reads' O_t.out).2.1 (Kd.V_reads' O_c.out).2.2 (Kd.V_reads' O_c.out).2.1 HYC.out HYL.out HC_.out).mono ?_
    rintro e_ w21 ⟨u1,u2,u3,rfl,ho1,ho2,ho3,hb⟩
    refine ⟨_,rfl,?_⟩
    obtain ⟨pe,hpe⟩ : ∃ n_ : Nat,n_ = w20.heap.size:=⟨_,rfl⟩
    obtain ⟨qe,hqe⟩ : ∃ n_ : Nat,n_ = w21.heap.size:=⟨_,rfl⟩
    replace HCH:=Aside0.mk (And.intro HCH.out (show g11 < pe ∧ pe ≤ qe by have h_:=HS.out;have h2_:=hb.size;omega))
    have O_d_e:=Aside0.mk (Kd.V_mono (Kd.V_bound ho1) (ok':=fun k_ => pe ≤ k_ ∧ k_ < qe) (fun k_ hk_ => ⟨by rw [hpe];exact hk_.1,by rw [hqe];exact hk_.2⟩))
    have O_t_e:=Aside0.mk (Kd.V_mono (Kd.V_bound ho2) (ok':=fun k_ => pe ≤ k_ ∧ k_ < qe) (fun k_ hk_ => ⟨by rw [hpe];exact hk_.1,by rw [hqe];exact hk_.2⟩))
    have O_c_e:=Aside0.mk (Kd.V_mono (Kd.V_bound ho3) (ok':=fun k_ => pe ≤ k_ ∧ k_ < qe) (fun k_ hk_ => ⟨by rw [hpe];exact hk_.1,by rw [hqe];exact hk_.2⟩))
    clear ho1 ho2 ho3
    have n59_:=Aside0.mk (below_step HB.out hb)
    have n60_:=Aside0.mk ((Nat.lt_of_lt_of_le (show _ < _ from HS.out) hb.size : g11 < w21.heap.size))
    have n61_:=Aside0.mk (blk_below BK_g6.out hb)
    have n62_:=Aside0.mk (blk_below BK_g11.out hb)
    have n63_:=Aside0.mk (Kd.V_below O_d.out hb)
    have n64_:=Aside0.mk (Kd.V_below O_t.out hb)
    have n65_:=Aside0.mk (Kd.V_below O_c.out hb)
    have n66_:=Aside0.mk (Kd.V_below O_a.out hb)
    have n67_:=Aside0.mk (Kd.N_below O_s.out hb)
    clear HB HS BK_g6 BK_g11 O_d O_t O_c O_a O_s
    have HB:=n59_
    have HS:=n60_
    have BK_g6:=n61_
    have BK_g11:=n62_
    have O_d:=n63_
    have O_t:=n64_
    have O_c:=n65_
    have O_a:=n66_
    have O_s:=n67_
    clear n59_ n60_ n61_ n62_ n63_ n64_ n65_ n66_ n67_
    replace HS:=Aside0.mk (show qe ≤ w21.heap.size by rw [hqe];exact Nat.le_refl _)
    have n68_:=Aside0.mk ((hb.cell (World.block_lt_of_cell? _ _ HY0.out)).trans HY0.out)
    have n69_:=Aside0.mk ((hb.cell (World.block_lt_of_cell? _ _ HY1.out)).trans HY1.out)
    have n70_:=Aside0.mk ((hb.cell (World.block_lt_of_cell? _ _ HY2.out)).trans HY2.out)
    have n71_:=Aside0.mk (Kd.C_below HYC.out hb)
    clear HY0 HY1 HY2 HYC
    have HY0:=n68_
    have HY1:=n69_
    have HY2:=n70_
    have HYC:=n71_
    clear n68_ n69_ n70_ n71_
    clear hb hpe hqe
    obtain ⟨Ae,p_e,eo⟩:=Kd.V_slice O_d_e.out
    subst eo
    obtain ⟨Be,q_e,eo⟩:=Kd.V_slice O_t_e.out
    subst eo
    obtain ⟨Ce,r_e,eo⟩:=Kd.V_slice O_c_e.out
    subst eo
    obtain ⟨hx_g6_0,hf_g6_0,hx_g6_1,hf_g6_1,hx_g6_2,hf_g6_2,hx_g6_3,hf_g6_3,hx_g6_4,hf_g6_4,hx_g6_5,hf_g6_5,hx_g6_6,hf_g6_6⟩:=cells7 BK_g6.out
    refine hK.out _ _ ⟨(blk_cell BK_g6.out 0).trans rfl,(blk_cell BK_g6.out 1).trans rfl,(blk_cell BK_g6.out 2).trans rfl,(blk_cell BK_g6.out 3).trans rfl,(blk_cell BK_g6.out 4).trans rfl,(blk_cell BK_g6.out 5).trans rfl,(blk_cell BK_g6.out 6).trans rfl,(blk_cell BK_g11.out 0).trans rfl,(blk_cell BK_g11.out 1).trans rfl,(blk_cell BK_g11.out 2).trans rfl,(blk_cell BK_g11.out 3).trans rfl,(blk_cell BK_g11.out 4).trans rfl,(blk_cell BK_g11.out 5).trans rfl,(blk_cell BK_g11.out 6).trans rfl,HY0.out,HY1.out,HY2.out⟩ (fun hHeld => ?_)
    clear hK K
    refine norm_ (a':=?_) ?_ ?_
    rotate_left
    ·show Act.put _ (some 171) _ = _
     simp only [Act.put,List.setIfInBounds_toArray,List.set_cons_zero,List.set_cons_succ,i64_w,i32_w]
     rfl
    refine last_ (i:=7) (N:=none) #[true,true,true,true,true,true,true,true] rfl rfl (by kernel_rfl) (by decide) (fun K hK => ?_)
    refine skip_ (w1:=?_) (by rfl) rfl ?_ ?_
    rotate_left
    ·go_simp
     rfl
    refine hK.out _ _ ?_
    clear hK K
    refine done_ (by kernel_rfl) ?_
    clear hx_g6_0 hf_g6_0 hx_g6_1 hf_g6_1 hx_g6_2 hf_g6_2 hx_g6_3 hf_g6_3 hx_g6_4 hf_g6_4 hx_g6_5 hf_g6_5 hx_g6_6 hf_g6_6
    obtain ⟨w22,hw72_⟩ : ∃ w_ : World,set7 w21 g6 (.int .u64 b3) (.slice Ae d3.length p_e) (.slice Be t3.length q_e) (.slice Ce c3.length r_e) (.bool fi3) (.bool ft3) (.bool fc3) = w_:=⟨_,rfl⟩
    have n73_:=Aside0.mk (blk7 hw72_ BK_g6.out)
    have n74_:=Aside0.mk (far7 hw72_ NB_g11_g6 BK_g11.out)
    have n75_:=Aside0.mk (text_V7o hw72_ (fun k_ hk_ => by have h_:=HCH.out;omega) O_d.out)
    have n76_:=Aside0.mk (text_V7o hw72_ (fun k_ hk_ => by have h_:=HCH.out;omega) O_t.out)
    have n77_:=Aside0.mk (text_V7o hw72_ (fun k_ hk_ => by have h_:=HCH.out;omega) O_c.out)
    have n78_:=Aside0.mk (text_V7o hw72_ (fun k_ hk_ => by have h_:=HCH.out;omega) O_a.out)
    have n79_:=Aside0.mk (text_N7o hw72_ (fun k_ hk_ => by have h_:=HCH.out;omega) O_s.out)
    have n80_:=Aside0.mk (text_V7o hw72_ (fun k_ hk_ => by have h_:=HCH.out;omega) O_d_e.out)
    have n81_:=Aside0.mk (text_V7o hw72_ (fun k_ hk_ => by have h_:=HCH.out;omega) O_t_e.out)
    have n82_:=Aside0.mk (text_V7o hw72_ (fun k_ hk_ => by have h_:=HCH.out;omega) O_c_e.out)
    have n83_:=Aside0.mk (below7 hw72_ GE_g6.out HB.out)
    have n84_:=Aside0.mk ((text_size7 hw72_).symm ▸ HS.out)
    rw [set7_fold,hw72_]
    clear hw72_ BK_g6 BK_g11 O_d O_t O_c O_a O_s O_d_e O_t_e O_c_e HB HS
    have BK_g6:=n73_
    have BK_g11:=n74_
    have O_d:=n75_
    have O_t:=n76_
    have O_c:=n77_
    have O_a:=n78_
    have O_s:=n79_
    have O_d_e:=n80_
    have O_t_e:=n81_
    have O_c_e:=n82_
    have HB:=n83_
    have HS:=n84_
    clear n73_ n74_ n75_ n76_ n77_ n78_ n79_ n80_ n81_ n82_ n83_ n84_
    clear HY0 HY1 HY2 HYC HYL
    obtain ⟨ae2,Me2,ce2,e2_,hy0,hy1,hy2,hyl,hyC⟩:=at_T32 (Kd.N_reads' O_s.out).2.2 nn HPN.out.1 HPN.out.2
    obtain rfl : ae = ae2:=by injection e2_
    rw [HCE.out] at hy0 hy1 hy2 hyl hyC
    dsimp only at hy0 hy1 hy2 hyl hyC
    have HY0:=Aside0.mk hy0
    have HY1:=Aside0.mk hy1
    have HY2:=Aside0.mk hy2
    have HYC:=Aside0.mk hyC
    clear hy0 hy1 hy2 hyl hyC e2_
    go_upto_region 33 with fail
    have n85_:=Aside0.mk (below_drew1 HB.out)
    have n86_:=Aside0.mk ((show qe ≤ w22.drew.heap.size from HS.out))
    have n87_:=Aside0.mk (blk_drew BK_g6.out)
    have n88_:=Aside0.mk (blk_drew BK_g11.out)
    have n89_:=Aside0.mk (Kd.V_drew O_d.out)
    have n90_:=Aside0.mk (Kd.V_drew O_t.out)
    have n91_:=Aside0.mk (Kd.V_drew O_c.out)
    have n92_:=Aside0.mk (Kd.V_drew O_a.out)
    have n93_:=Aside0.mk (Kd.N_drew O_s.out)
    have n94_:=Aside0.mk (Kd.V_drew O_d_e.out)
    have n95_:=Aside0.mk (Kd.V_drew O_t_e.out)
    have n96_:=Aside0.mk (Kd.V_drew O_c_e.out)
    have n97_:=Aside0.mk ((show w22.drew.cell? (ae.add (nn.toNat * 3)) = some (.int .u64 eo_) from HY0.out))
    have n98_:=Aside0.mk ((show w22.drew.cell? ⟨(ae.add (nn.toNat * 3)).block,(ae.add (nn.toNat * 3)).off + 1,none⟩ = some (.slice Me2 em.length ce2) from HY1.out))
    have n99_:=Aside0.mk ((show w22.drew.cell? ⟨(ae.add (nn.toNat * 3)).block,(ae.add (nn.toNat * 3)).off + 2,none⟩ = some (.bool ef) from HY2.out))
    have n100_:=Aside0.mk (Kd.C_drew HYC.out)
    clear HB HS BK_g6 BK_g11 O_d O_t O_c O_a O_s O_d_e O_t_e O_c_e HY0 HY1 HY2 HYC
    have HB:=n85_
    have HS:=n86_
    have BK_g6:=n87_
    have BK_g11:=n88_
    have O_d:=n89_
    have O_t:=n90_
    have O_c:=n91_
    have O_a:=n92_
    have O_s:=n93_
    have O_d_e:=n94_
    have O_t_e:=n95_
    have O_c_e:=n96_
    have HY0:=n97_
    have HY1:=n98_
    have HY2:=n99_
    have HYC:=n100_
    clear n85_ n86_ n87_ n88_ n89_ n90_ n91_ n92_ n93_ n94_ n95_ n96_ n97_ n98_ n99_ n100_
    (try simp only [Act.put,List.setIfInBounds_toArray,List.set_cons_zero,List.set_cons_succ])
    refine start_ (n:=25) (S:=fun w' => w'.cell? ⟨g6,0,none⟩ = some (.int .u64 b3) ∧ w'.cell? ⟨g6,1,none⟩ = some (.slice Ae d3.length p_e) ∧ w'.cell? ⟨g6,2,none⟩ = some (.slice Be t3.length q_e) ∧ w'.cell? ⟨g6,3,none⟩ = some (.slice Ce c3.length r_e) ∧ w'.cell? ⟨g6,4,none⟩ = some (.bool fi3) ∧ w'.cell? ⟨g6,5,none⟩ = some (.bool ft3) ∧ w'.cell? ⟨g6,6,none⟩ = some (.bool fc3) ∧ w'.cell? ⟨g11,0,none⟩ = some (.int .i64 5) ∧ w'.cell? ⟨g11,1,none⟩ = some (.slice Aq fd.length cq) ∧ w'.cell? ⟨g11,2,none⟩ = some (.int .i64 sz) ∧ w'.cell? ⟨g11,3,none⟩ = some (.int .u64 lm) ∧ w'.cell? ⟨g11,4,none⟩ = some (.int .i64 nn) ∧ w'.cell? ⟨g11,5,none⟩ = some (.int .u64 fo) ∧ w'.cell? ⟨g11,6,none⟩ = some (.bool ff) ∧ w'.cell? (ae.add (nn.toNat * 3)) = some (.int .u64 eo_) ∧ w'.cell? ⟨(ae.add (nn.toNat * 3)).block,(ae.add (nn.toNat * 3)).off + 1,none⟩ = some (.slice Me2 em.length ce2) ∧ w'.cell? ⟨(ae.add (nn.toNat * 3)).block,(ae.add (nn.toNat * 3)).off + 2,none⟩ = some (.bool ef)) (ds:=[]) #[false,false,false,false,false,false,false,false,false,false,false,false,false,false,false,false,false,false,false,false,false,false,false,false,false] (by kernel_rfl) rfl rfl ⟨(blk_cell BK_g6.out 0).trans rfl,(blk_cell BK_g6.out 1).trans rfl,(blk_cell BK_g6.out 2).trans rfl,(blk_cell BK_g6.out 3).trans rfl,(blk_cell BK_g6.out 4).trans rfl,(blk_cell BK_g6.out 5).trans rfl,(blk_cell BK_g6.out 6).trans rfl,(blk_cell BK_g11.out 0).trans rfl,(blk_cell BK_g11.out 1).trans rfl,(blk_cell BK_g11.out 2).trans rfl,(blk_cell BK_g11.out 3).trans rfl,(blk_cell BK_g11.out 4).trans rfl,(blk_cell BK_g11.out 5).trans rfl,(blk_cell BK_g11.out 6).trans rfl,HY0.out,HY1.out,HY2.out⟩ (fun hHeld => ?_)
    generalize w22.drew = w30 at HB HS HY0 HY1 HY2 HYC BK_g6 BK_g11 O_d O_t O_c O_a O_s O_d_e O_t_e O_c_e hHeld ⊢
    refine pure_ (i:=0) (N:=some 172) (v:=?_) (a':=?_) #[true,false,false,false,false,false,false,false,false,false,false,false,false,false,false,false,false,false,false,false,false,false,false,false,false] rfl rfl (by kernel_rfl) (fun _ _ _ h => h) (Or.inl ⟨by rfl,?_⟩) ?_ ?_
    rotate_left
    ·intro w'
     go_simp
     with_reducible rfl
    rotate_left
    ·simp only [Act.put,List.setIfInBounds_toArray,List.set_cons_zero,List.set_cons_succ,i64_w,i32_w]
     rfl
    refine pure_ (i:=1) (N:=some 173) (v:=?_) (a':=?_) #[true,true,false,false,false,false,false,false,false,false,false,false,false,false,false,false,false,false,false,false,false,false,false,false,false] rfl rfl (by kernel_rfl) (fun _ _ _ h => h) (Or.inl ⟨by rfl,?_⟩) ?_ ?_
    rotate_left
    ·intro w'
     go_simp
     with_reducible rfl
    rotate_left
    ·simp only [Act.put,List.setIfInBounds_toArray,List.set_cons_zero,List.set_cons_succ,i64_w,i32_w]
     rfl
    refine pure_ (i:=2) (N:=some 174) (v:=?_) (a':=?_) #[true,true,true,false,false,false,false,false,false,false,false,false,false,false,false,false,false,false,false,false,false,false,false,false,false] rfl rfl (by kernel_rfl) (fun _ _ _ h => h) (Or.inl ⟨by rfl,?_⟩) ?_ ?_
    rotate_left
    ·intro w'
     go_simp
     with_reducible rfl
    rotate_left
    ·simp only [Act.put,List.setIfInBounds_toArray,List.set_cons_zero,List.set_cons_succ,i64_w,i32_w]
     rfl
    refine pure_ (i:=7) (N:=some 179) (v:=?_) (a':=?_) #[true,true,true,false,false,false,false,true,false,false,false,false,false,false,false,false,false,false,false,false,false,false,false,false,false] rfl rfl (by kernel_rfl) (fun _ _ _ h => h) (Or.inl ⟨by rfl,?_⟩) ?_ ?_
    rotate_left
    ·intro w'
     go_simp
     with_reducible rfl
    rotate_left
    ·simp only [Act.put,List.setIfInBounds_toArray,List.set_cons_zero,List.set_cons_succ,i64_w,i32_w]
     rfl
    refine pure_ (i:=8) (N:=some 180) (v:=?_) (a':=?_) #[true,true,true,false,false,false,false,true,true,false,false,false,false,false,false,false,false,false,false,false,false,false,false,false,false] rfl rfl (by kernel_rfl) (fun _ _ _ h => h) (Or.inl ⟨by rfl,?_⟩) ?_ ?_
    rotate_left
    ·intro w'
     go_simp
     with_reducible rfl
    rotate_left
    ·simp only [Act.put,List.setIfInBounds_toArray,List.set_cons_zero,List.set_cons_succ,i64_w,i32_w]
     rfl
    refine pure_ (i:=13) (N:=some 185) (v:=?_) (a':=?_) #[true,true,true,false,false,false,false,true,true,false,false,false,false,true,false,false,false,false,false,false,false,false,false,false,false] rfl rfl (by kernel_rfl) (fun _ _ _ h => h) (Or.inl ⟨by rfl,?_⟩) ?_ ?_
    rotate_left
    ·intro w'
     go_simp
     with_reducible rfl
    rotate_left
    ·simp only [Act.put,List.setIfInBounds_toArray,List.set_cons_zero,List.set_cons_succ,i64_w,i32_w]
     rfl
    refine pure_ (i:=14) (N:=some 186) (v:=?_) (a':=?_) #[true,true,true,false,false,false,false,true,true,false,false,false,false,true,true,false,false,false,false,false,false,false,false,false,false] rfl rfl (by kernel_rfl) (fun _ _ _ h => h) (Or.inl ⟨by rfl,?_⟩) ?_ ?_
    rotate_left
    ·intro w'
     go_simp
     with_reducible rfl
    rotate_left
    ·simp only [Act.put,List.setIfInBounds_toArray,List.set_cons_zero,List.set_cons_succ,i64_w,i32_w]
     rfl
    refine take_ (i:=3) (N:=some 175) (v:=?_) (a':=?_) #[true,true,true,true,false,false,false,true,true,false,false,false,false,true,true,false,false,false,false,false,false,false,false,false,false] rfl rfl (by kernel_rfl) (fun _ _ _ h => h) (Or.inl ⟨by rfl,?_⟩) hHeld ?_ ?_
    rotate_left
    ·rintro w' ⟨s0,s1,s2,s3,s4,s5,s6,s7,s8,s9,s10,s11,s12,s13,s14,s15,s16⟩
     go_simp
     with_reducible rfl
    rotate_left
    ·simp only [Act.put,List.setIfInBounds_toArray,List.set_cons_zero,List.set_cons_succ,i64_w,i32_w]
     rfl
    refine pure_ (i:=4) (N:=some 176) (v:=?_) (a':=?_) #[true,true,true,true,true,false,false,true,true,false,false,false,false,true,true,false,false,false,false,false,false,false,false,false,false] rfl rfl (by kernel_rfl) (fun _ _ _ h => h) (Or.inl ⟨by rfl,?_⟩) ?_ ?_
    rotate_left
    ·intro w'
     go_simp
     with_reducible rfl
    rotate_left
    ·simp only [Act.put,List.setIfInBounds_toArray,List.set_cons_zero,List.set_cons_succ,i64_w,i32_w]
     rfl
    refine pure_ (i:=5) (N:=some 177) (v:=?_) (a':=?_) #[true,true,true,true,true,true,false,true,true,false,false,false,false,true,true,false,false,false,false,false,false,false,false,false,false] rfl rfl (by kernel_rfl) (fun _ _ _ h => h) (Or.inl ⟨by rfl,?_⟩) ?_ ?_
    rotate_left
    ·intro w'
     go_simp
     with_reducible rfl
    rotate_left
    ·simp only [Act.put,List.setIfInBounds_toArray,List.set_cons_zero,List.set_cons_succ,i64_w,i32_w]
     rfl
    refine take_ (i:=6) (N:=some 178) (v:=?_) (a':=?_) #[true,true,true,true,true,true,true,true,true,false,false,false,false,true,true,false,false,false,false,false,false,false,false,false,false] rfl rfl (by kernel_rfl) (fun _ _ _ h => h) (Or.inl ⟨by rfl,?_⟩) hHeld ?_ ?_
    rotate_left
    ·rintro w' ⟨s0,s1,s2,s3,s4,s5,s6,s7,s8,s9,s10,s11,s12,s13,s14,s15,s16⟩
     go_simp
     with_reducible rfl
    rotate_left
    ·simp only [Act.put,List.setIfInBounds_toArray,List.set_cons_zero,List.set_cons_succ,i64_w,i32_w]
     rfl
    refine take_ (i:=9) (N:=some 181) (v:=?_) (a':=?_) #[true,true,true,true,true,true,true,true,true,true,false,false,false,true,true,false,false,false,false,false,false,false,false,false,false] rfl rfl (by kernel_rfl) (fun _ _ _ h => h) (Or.inl ⟨by rfl,?_⟩) hHeld ?_ ?_
    rotate_left
    ·rintro w' ⟨s0,s1,s2,s3,s4,s5,s6,s7,s8,s9,s10,s11,s12,s13,s14,s15,s16⟩
     go_simp
     with_reducible rfl
    rotate_left
    ·simp only [Act.put,List.setIfInBounds_toArray,List.set_cons_zero,List.set_cons_succ,i64_w,i32_w]
     rfl
    refine pure_ (i:=10) (N:=some 182) (v:=?_) (a':=?_) #[true,true,true,true,true,true,true,true,true,true,true,false,false,true,true,false,false,false,false,false,false,false,false,false,false] rfl rfl (by kernel_rfl) (fun _ _ _ h => h) (Or.inl ⟨by rfl,?_⟩) ?_ ?_
    rotate_left
    ·intro w'
     go_simp
     with_reducible rfl
    rotate_left
    ·simp only [Act.put,List.setIfInBounds_toArray,List.set_cons_zero,List.set_cons_succ,i64_w,i32_w]
     rfl
    refine pure_ (i:=11) (N:=some 183) (v:=?_) (a':=?_) #[true,true,true,true,true,true,true,true,true,true,true,true,false,true,true,false,false,false,false,false,false,false,false,false,false] rfl rfl (by kernel_rfl) (fun _ _ _ h => h) (Or.inl ⟨by rfl,?_⟩) ?_ ?_
    rotate_left
    ·intro w'
     go_simp
     with_reducible rfl
    rotate_left
    ·simp only [Act.put,List.setIfInBounds_toArray,List.set_cons_zero,List.set_cons_succ,i64_w,i32_w]
     rfl
    refine take_ (i:=12) (N:=some 184) (v:=?_) (a':=?_) #[true,true,true,true,true,true,true,true,true,true,true,true,true,true,true,false,false,false,false,false,false,false,false,false,false] rfl rfl (by kernel_rfl) (fun _ _ _ h => h) (Or.inl ⟨by rfl,?_⟩) hHeld ?_ ?_
    rotate_left
    ·rintro w' ⟨s0,s1,s2,s3,s4,s5,s6,s7,s8,s9,s10,s11,s12,s13,s14,s15,s16⟩
     go_simp
     with_reducible rfl
    rotate_left
    ·simp only [Act.put,List.setIfInBounds_toArray,List.set_cons_zero,List.set_cons_succ,i64_w,i32_w]
     rfl
    refine take_ (i:=15) (N:=some 187) (v:=?_) (a':=?_) #[true,true,true,true,true,true,true,true,true,true,true,true,true,true,true,true,false,false,false,false,false,false,false,false,false] rfl rfl (by kernel_rfl) (fun _ _ _ h => h) (Or.inl ⟨by rfl,?_⟩) hHeld ?_ ?_
    rotate_left
    ·rintro w' ⟨s0,s1,s2,s3,s4,s5,s6,s7,s8,s9,s10,s11,s12,s13,s14,s15,s16⟩
     go_simp
     with_reducible rfl
    rotate_left
    ·simp only [Act.put,List.setIfInBounds_toArray,List.set_cons_zero,List.set_cons_succ,i64_w,i32_w]
     rfl
    refine pure_ (i:=16) (N:=some 188) (v:=?_) (a':=?_) #[true,true,true,true,true,true,true,true,true,true,true,true,true,true,true,true,true,false,false,false,false,false,false,false,false] rfl rfl (by kernel_rfl) (fun _ _ _ h => h) (Or.inl ⟨by rfl,?_⟩) ?_ ?_
    rotate_left
    ·intro w'
     go_simp
     with_reducible rfl
    rotate_left
    ·simp only [Act.put,List.setIfInBounds_toArray,List.set_cons_zero,List.set_cons_succ,i64_w,i32_w]
     rfl
    refine pure_ (i:=17) (N:=some 189) (v:=?_) (a':=?_) #[true,true,true,true,true,true,true,true,true,true,true,true,true,true,true,true,true,true,false,false,false,false,false,false,false] rfl rfl (by kernel_rfl) (fun _ _ _ h => h) (Or.inl ⟨by rfl,?_⟩) ?_ ?_
    rotate_left
    ·intro w'
     go_simp
     with_reducible rfl
    rotate_left
    ·simp only [Act.put,List.setIfInBounds_toArray,List.set_cons_zero,List.set_cons_succ,i64_w,i32_w]
     rfl
    refine take_ (i:=18) (N:=some 190) (v:=?_) (a':=?_) #[true,true,true,true,true,true,true,true,true,true,true,true,true,true,true,true,true,true,true,false,false,false,false,false,false] rfl rfl (by kernel_rfl) (fun _ _ _ h => h) (Or.inl ⟨by rfl,?_⟩) hHeld ?_ ?_
    rotate_left
    ·rintro w' ⟨s0,s1,s2,s3,s4,s5,s6,s7,s8,s9,s10,s11,s12,s13,s14,s15,s16⟩
     go_simp
     with_reducible rfl
    rotate_left
    ·simp only [Act.put,List.setIfInBounds_toArray,List.set_cons_zero,List.set_cons_succ,i64_w,i32_w]
     rfl
    refine pure_ (i:=19) (N:=some 191) (v:=?_) (a':=?_) #[true,true,true,true,true,true,true,true,true,true,true,true,true,true,true,true,true,true,true,true,false,false,false,false,false] rfl rfl (by kernel_rfl) (fun _ _ _ h => h) (Or.inl ⟨by rfl,?_⟩) ?_ ?_
    rotate_left
    ·intro w'
     go_simp
     with_reducible rfl
    rotate_left
    ·simp only [Act.put,List.setIfInBounds_toArray,List.set_cons_zero,List.set_cons_succ,i64_w,i32_w]
     rfl
    refine pure_ (i:=20) (N:=some 192) (v:=?_) (a':=?_) #[true,true,true,true,true,true,true,true,true,true,true,true,true,true,true,true,true,true,true,true,true,false,false,false,false] rfl rfl (by kernel_rfl) (fun _ _ _ h => h) (Or.inl ⟨by rfl,?_⟩) ?_ ?_
    rotate_left
    ·intro w'
     go_simp
     with_reducible rfl
    rotate_left
    ·simp only [Act.put,List.setIfInBounds_toArray,List.set_cons_zero,List.set_cons_succ,i64_w,i32_w]
     rfl
    refine pure_ (i:=21) (N:=some 193) (v:=?_) (a':=?_) #[true,true,true,true,true,true,true,true,true,true,true,true,true,true,true,true,true,true,true,true,true,true,false,false,false] rfl rfl (by kernel_rfl) (fun _ _ _ h => h) (Or.inl ⟨by rfl,?_⟩) ?_ ?_
    rotate_left
    ·intro w'
     go_simp
     with_reducible rfl
    rotate_left
    ·simp only [Act.put,List.setIfInBounds_toArray,List.set_cons_zero,List.set_cons_succ,i64_w,i32_w]
     rfl
    refine pure_ (i:=22) (N:=some 194) (v:=?_) (a':=?_) #[true,true,true,true,true,true,true,true,true,true,true,true,true,true,true,true,true,true,true,true,true,true,true,false,false] rfl rfl (by kernel_rfl) (fun _ _ _ h => h) (Or.inl ⟨by rfl,?_⟩) ?_ ?_
    rotate_left
    ·intro w'
     go_simp
     with_reducible rfl
    rotate_left
    ·simp only [Act.put,List.setIfInBounds_toArray,List.set_cons_zero,List.set_cons_succ,i64_w,i32_w]
     rfl
    refine one_ (i:=23) (N:=some 195) #[true,true,true,true,true,true,true,true,true,true,true,true,true,true,true,true,true,true,true,true,true,true,true,true,false] rfl rfl (by kernel_rfl) (by decide) (fun K hK => ?_)
    refine goes_ Try.func18 (by kernel_rfl) rfl #[.slice Ax_a ca.length p_a,.agg #[.int .u64 eo_,.int .u64 en]] (by rfl) rfl rfl (by (try simp only [List.map_toArray,List.map_cons,List.map_nil]);first | done | rfl) ?_
    refine (wigwagref07_Add.calls k _ _ ca eo_ en _ _ (Kd.V_reads' O_a.out).2.2 (Kd.V_reads' O_a.out).2.1 HA_.out).mono ?_
    rintro e_ w31 ⟨u1,rfl,ho1,hb⟩
    refine ⟨_,rfl,?_⟩
    obtain ⟨pv,hpv⟩ : ∃ n_ : Nat,n_ = w30.heap.size:=⟨_,rfl⟩
    obtain ⟨qv,hqv⟩ : ∃ n_ : Nat,n_ = w31.heap.size:=⟨_,rfl⟩
    replace HCH:=Aside0.mk (And.intro HCH.out (show qe ≤ pv ∧ pv ≤ qv by have h_:=HS.out;have h2_:=hb.size;omega))
    have O_a_v:=Aside0.mk (Kd.R_V (base':=w30.heap.size) (Kd.R_mono (Kd.R_bound ho1) (ok':=fun k_ => pv ≤ k_ ∧ k_ < qv) (fun k_ hk_ => ⟨by rw [hpv];exact hk_.2.1,by rw [hqv];exact hk_.2.2.1⟩)))
    clear ho1
    have n101_:=Aside0.mk (below_step HB.out hb)
    have n102_:=Aside0.mk ((Nat.le_trans (show _ ≤ _ from HS.out) hb.size : qe ≤ w31.heap.size))
    have n103_:=Aside0.mk (blk_below BK_g6.out hb)
    have n104_:=Aside0.mk (blk_below BK_g11.out hb)
    have n105_:=Aside0.mk (Kd.V_below O_d.out hb)
    have n106_:=Aside0.mk (Kd.V_below O_t.out hb)
    have n107_:=Aside0.mk (Kd.V_below O_c.out hb)
    have n108_:=Aside0.mk (Kd.V_below O_a.out hb)
    have n109_:=Aside0.mk (Kd.N_below O_s.out hb)
    have n110_:=Aside0.mk (Kd.V_below O_d_e.out hb)
    have n111_:=Aside0.mk (Kd.V_below O_t_e.out hb)
    have n112_:=Aside0.mk (Kd.V_below O_c_e.out hb)
    clear HB HS BK_g6 BK_g11 O_d O_t O_c O_a O_s O_d_e O_t_e O_c_e
    have HB:=n101_
    have HS:=n102_
    have BK_g6:=n103_
    have BK_g11:=n104_
    have O_d:=n105_
    have O_t:=n106_
    have O_c:=n107_
    have O_a:=n108_
    have O_s:=n109_
    have O_d_e:=n110_
    have O_t_e:=n111_
    have O_c_e:=n112_
    clear n101_ n102_ n103_ n104_ n105_ n106_ n107_ n108_ n109_ n110_ n111_ n112_
    replace HS:=Aside0.mk (show qv ≤ w31.heap.size by rw [hqv];exact Nat.le_refl _)
    have n113_:=Aside0.mk ((hb.cell (World.block_lt_of_cell? _ _ HY0.out)).trans HY0.out)
    have n114_:=Aside0.mk ((hb.cell (World.block_lt_of_cell? _ _ HY1.out)).trans HY1.out)
    have n115_:=Aside0.mk ((hb.cell (World.block_lt_of_cell? _ _ HY2.out)).trans HY2.out)
    have n116_:=Aside0.mk (Kd.C_below HYC.out hb)
    clear HY0 HY1 HY2 HYC
    have HY0:=n113_
    have HY1:=n114_
    have HY2:=n115_
    have HYC:=n116_
    clear n113_ n114_ n115_ n116_
    clear hb hpv hqv
    obtain ⟨Av,p_v,eo⟩:=Kd.V_slice O_a_v.out
    subst eo
    refine hK.out _ _ ⟨(blk_cell BK_g6.out 0).trans rfl,(blk_cell BK_g6.out 1).trans rfl,(blk_cell BK_g6.out 2).trans rfl,(blk_cell BK_g6.out 3).trans rfl,(blk_cell BK_g6.out 4).trans rfl,(blk_cell BK_g6.out 5).trans rfl,(blk_cell BK_g6.out 6).trans rfl,(blk_cell BK_g11.out 0).trans rfl,(blk_cell BK_g11.out 1).trans rfl,(blk_cell BK_g11.out 2).trans rfl,(blk_cell BK_g11.out 3).trans rfl,(blk_cell BK_g11.out 4).trans rfl,(blk_cell BK_g11.out 5).trans rfl,(blk_cell BK_g11.out 6).trans rfl,HY0.out,HY1.out,HY2.out⟩ (fun hHeld => ?_)
    clear hK K
    refine norm_ (a':=?_) ?_ ?_
    rotate_left
    ·show Act.put _ (some 195) _ = _
     simp only [Act.put,List.setIfInBounds_toArray,List.set_cons_zero,List.set_cons_succ,i64_w,i32_w]
     rfl
    refine pure_ (i:=24) (N:=some 9) (v:=?_) (a':=?_) #[true,true,true,true,true,true,true,true,true,true,true,true,true,true,true,true,true,true,true,true,true,true,true,true,true] rfl rfl (by kernel_rfl) (fun _ _ _ h => h) (Or.inl ⟨by rfl,?_⟩) ?_ ?_
    rotate_left
    ·intro w'
     go_simp
     with_reducible rfl
    rotate_left
    ·simp only [Act.put,List.setIfInBounds_toArray,List.set_cons_zero,List.set_cons_succ,i64_w,i32_w]
     rfl
    refine done_ (by kernel_rfl) ?_
    obtain ⟨hx_g11_0,hf_g11_0,hx_g11_1,hf_g11_1,hx_g11_2,hf_g11_2,hx_g11_3,hf_g11_3,hx_g11_4,hf_g11_4,hx_g11_5,hf_g11_5,hx_g11_6,hf_g11_6⟩:=cells7 BK_g11.out
    go_wp2
    go_roundg k1
    case measure => omega
    case rel => exact ⟨wrap64 (i + 1),b3,d3,t3,c3,fi3,ft3,fc3,se,ca2,_,_,_,_,_,rfl,rfl,(by first | rfl | simp only [hw]),⟨by have h2:=HI.out;rw [hw];omega⟩,⟨by rw [HI2.out];exact HQ.out⟩,⟨Kd.V_mono O_d_e.out (fun k_ hk_ => ⟨by have h_:=HCH.out;omega,fun he_ => by have h_:=HVS.out k_ he_.symm;have h2_:=HCH.out;omega⟩)⟩,⟨Kd.V_mono O_t_e.out (fun k_ hk_ => ⟨by have h_:=HCH.out;omega,fun he_ => by have h_:=HVS.out k_ he_.symm;have h2_:=HCH.out;omega⟩)⟩,⟨Kd.V_mono O_c_e.out (fun k_ hk_ => ⟨by have h_:=HCH.out;omega,fun he_ => by have h_:=HVS.out k_ he_.symm;have h2_:=HCH.out;omega⟩)⟩,⟨Kd.V_mono O_a_v.out (fun k_ hk_ => ⟨by have h_:=HCH.out;omega,fun he_ => by have h_:=HVS.out k_ he_.symm;have h2_:=HCH.out;omega⟩)⟩,⟨Kd.N_mono O_s.out (fun k_ hk_ => hk_.1)⟩,BK_g6,HB⟩
set_option maxHeartbeats 8000000 in
set_option maxRecDepth 100000 in
theorem wigwaglaw18_SupplyText.calls (k : Nat) (A0 : Option Addr) (c0 : Nat) (l0 : List Int) (A1 : Option Addr) (c1 : Nat) (l1 : List S48) (r : Bool) (w : World) (hr0 : Kd.C (Kd.int .u8) w A0 l0.length l0) (hc0 : l0.length ≤ c0) (hr1 : Kd.C k48 w A1 l1.length l1) (hc1 : l1.length ≤ c1) (h : wigwaglaw18_SupplyText.f k l0 l1 = some r) :
  Calls Try.prog 6 #[.slice A0 l0.length c0,.slice A1 l1.length c1] w fun e w' => e = .returned (.bool r) ∧ Below w.heap.size w w':=by
 have HR0:=Aside0.mk hr0
 have HC0:=Aside0.mk hc0
 have HR1:=Aside0.mk hr1
 have HC1:=Aside0.mk hc1
 have HB:=Aside0.mk (Below.refl w.heap.size w)
 clear hr0 hc0 hr1 hc1
 unfold wigwaglaw18_SupplyText.f at h
 by_cases c1_ : (l0.length : Int) > 300
 case pos =>
  rw [if_pos c1_] at h
  obtain rfl:=Option.some.inj h
  have k0 : decide ((l0.length : Int) > 300) = true:=decide_eq_true c1_
  have k1 : decide ((300 : Int) < (l0.length : Int)) = true:=decide_eq_true c1_
  have k2 : decide (300 < l0.length) = true:=decide_eq_true (by omega)
  clear c1_ h
  go_enter Try.func6,Try.ntmps6
  go_wp2_with (go_at_call 8;refine (wigwaglaw18_awake.calls true _ rfl).mono ?_;rintro e_ w1 ⟨rfl,hb⟩;have HB2:=Aside0.mk (below_step HB.out hb);clear HB hb;have HB:=HB2;clear HB2)
  go_ret
  exact ⟨rfl,HB.out⟩
 rw [if_neg c1_] at h
 have k0 : decide ((l0.length : Int) > 300) = false:=decide_eq_false c1_
 have k1 : decide ((300 : Int) < (l0.length : Int)) = false:=decide_eq_false c1_
 have k2 : decide (300 < l0.length) = false:=decide_eq_false (by omega)
 have HN:=Aside0.mk (show l0.length ≤ 300 by omega)
 clear c1_
 replace h:=Option.bind_eq_some_iff.mp h
 obtain ⟨t0,P1,h⟩:=h
 by_cases c2_ : t0.length < 1000000
 case neg => rw [if_neg c2_] at h;cases h
 rw [if_pos c2_] at h
 replace h:=Option.bind_eq_some_iff.mp h
 obtain ⟨u9,P2,h⟩:=h
 obtain rfl:=Option.some.inj h
 have HT0:=Aside0.mk c2_
 have PW:=Aside0.mk (text_write P1 HN.out)
 have PF:=Aside0.mk (show supply_Finish.f 0 l0 t0 [] false false false = some (0,l0,t0,[],true,true,false) by unfold supply_Finish.f;rw [if_pos ⟨by have h_:=HN.out;omega,by have h_:=HT0.out;omega,by simp⟩];rfl)
 replace P2:=Aside0.mk P2
 clear h P1 c2_
 go_enter Try.func6,Try.ntmps6
 go_upto_region 4 with (go_at_call 8;refine (wigwaglaw18_awake.calls true _ rfl).mono ?_;rintro e_ w1 ⟨rfl,hb⟩;have HB2:=Aside0.mk (below_step HB.out hb);clear HB hb;have HB:=HB2;clear HB2)
 have HCH : Aside0 (w.heap.size ≤ w.heap.size):=⟨Nat.le_refl _⟩
 have HS : Aside0 (w.heap.size ≤ w1.heap.size):=⟨HB.out.size⟩
 go_upto_region 5 with (first
  | ((with_reducible refine gate_callee (f:=9) rfl ?_);refine goesL_ (some 26) rfl rfl Try.func9 (by kernel_rfl) rfl #[.agg #[.int .u64 0,.slice none 0 0,.slice none 0 0,.slice none 0 0,.bool false,.bool false,.bool false],.slice A0 l0.length c0] rfl (by (try simp only [List.map_toArray,List.map_cons,List.map_nil]);first | done | rfl) ?_;refine (supply_Write.calls k 0 none 0 [] none 0 [] none 0 [] false false false _ _ l0 _ _ _ _ _ _ _ _ _ (Kd.C_nil _ _) (Nat.le_refl _) (Kd.C_nil _ _) (Nat.le_refl _) (Kd.C_nil _ _) (Nat.le_refl _) (Kd.C_below HR0.out HB.out) HC0.out PW.out).mono ?_;rintro e_ w2 ⟨u1,u2,u3,rfl,ho1,ho2,ho3,hb⟩;refine ⟨_,rfl,?_⟩;obtain ⟨p1,hp1⟩ : ∃ n_ : Nat,n_ = w1.heap.size:=⟨_,rfl⟩;obtain ⟨q1,hq1⟩ : ∃ n_ : Nat,n_ = w2.heap.size:=⟨_,rfl⟩;replace HCH:=Aside0.mk (And.intro HCH.out (show w.heap.size ≤ p1 ∧ p1 ≤ q1 by have h_:=HS.out;have h2_:=hb.size;omega));have O_d_1:=Aside0.mk (Kd.R_V (base':=w1.heap.size) (Kd.R_mono (Kd.R_bound ho1) (ok':=fun k_ => p1 ≤ k_ ∧ k_ < q1) (fun k_ hk_ => ⟨by rw [hp1];exact hk_.2.1,by rw [hq1];exact hk_.2.2.1⟩)));have O_t_1:=Aside0.mk (Kd.R_V (base':=w1.heap.size) (Kd.R_mono (Kd.R_bound ho2) (ok':=fun k_ => p1 ≤ k_ ∧ k_ < q1) (fun k_ hk_ => ⟨by rw [hp1];exact hk_.2.1,by rw [hq1];exact hk_.2.2.1⟩)));have O_c_1:=Aside0.mk (Kd.R_V (base':=w1.heap.size) (Kd.R_mono (Kd.R_bound ho3) (ok':=fun k_ => p1 ≤ k_ ∧ k_ < q1) (fun k_ hk_ => ⟨by rw [hp1];exact hk_.2.1,by rw [hq1];exact hk_.2.2.1⟩)));clear ho1 ho2 ho3;have n1_:=Aside0.mk (below_step HB.out hb);have n2_:=Aside0.mk ((Nat.le_trans (show _ ≤ _ from HS.out) hb.size : w.heap.size ≤ w2.heap.size));clear HB HS;have HB:=n1_;have HS:=n2_;clear n1_ n2_;replace HS:=Aside0.mk (show q1 ≤ w2.heap.size by rw [hq1];exact Nat.le_refl _);clear hb hp1 hq1;obtain ⟨A1,p_1,eo⟩:=Kd.V_slice O_d_1.out;subst eo;obtain ⟨B1,q_1,eo⟩:=Kd.V_slice O_t_1.out;subst eo;obtain ⟨C1,r_1,eo⟩:=Kd.V_slice O_c_1.out;subst eo)
  | ((with_reducible refine gate_dst (N:=6) rfl ?_);refine box_event ?hg (N:=6) ?hd (cs:=#[.int .u64 0,.slice none 0 0,.slice none 0 0,.slice none 0 0,.bool false,.bool false,.bool false]) (t:=27) ?hr ?_;(case hd => rfl);(case hg => rfl);(case hr => first | (go_simp;done) | (go_simp;rfl));intro g6 hg w3 hbox hb;have GE_g6:=Aside0.mk (show w.heap.size ≤ g6 by rw [hg];exact HB.out.size);replace HCH:=Aside0.mk (And.intro HCH.out (show q1 ≤ g6 by rw [hg];exact HS.out));have n3_:=Aside0.mk (below_step HB.out hb);have n4_:=Aside0.mk ((Nat.le_trans (show _ ≤ _ from HS.out) hb.size : q1 ≤ w3.heap.size));have n5_:=Aside0.mk (Kd.V_below O_d_1.out hb);have n6_:=Aside0.mk (Kd.V_below O_t_1.out hb);have n7_:=Aside0.mk (Kd.V_below O_c_1.out hb);clear HB HS O_d_1 O_t_1 O_c_1;have HB:=n3_;have HS:=n4_;have O_d_1:=n5_;have O_t_1:=n6_;have O_c_1:=n7_;clear n3_ n4_ n5_ n6_ n7_;replace HS:=Aside0.mk (show g6 < w3.heap.size from blk_lt hbox);have BK_g6:=Aside0.mk hbox;clear hbox hb hg;obtain ⟨hx_g6_0,hf_g6_0,hx_g6_1,hf_g6_1,hx_g6_2,hf_g6_2,hx_g6_3,hf_g6_3,hx_g6_4,hf_g6_4,hx_g6_5,hf_g6_5,hx_g6_6,hf_g6_6⟩:=cells7 BK_g6.out))
 clear hx_g6_0 hf_g6_0 hx_g6_1 hf_g6_1 hx_g6_2 hf_g6_2 hx_g6_3 hf_g6_3 hx_g6_4 hf_g6_4 hx_g6_5 hf_g6_5 hx_g6_6 hf_g6_6
 obtain ⟨w4,hw8_⟩ : ∃ w_ : World,set7 w3 g6 (.int .u64 0) (.slice A1 l0.length p_1) (.slice B1 t0.length q_1) (.slice C1 0 r_1) (.bool false) (.bool false) (.bool false) = w_:=⟨_,rfl⟩
 have n9_:=Aside0.mk (blk7 hw8_ BK_g6.out)
 have n10_:=Aside0.mk (text_V7o hw8_ (fun k_ hk_ => by have h_:=HCH.out;omega) O_d_1.out)
 have n11_:=Aside0.mk (text_V7o hw8_ (fun k_ hk_ => by have h_:=HCH.out;omega) O_t_1.out)
 have n12_:=Aside0.mk (text_V7o hw8_ (fun k_ hk_ => by have h_:=HCH.out;omega) O_c_1.out)
 have n13_:=Aside0.mk (below7 hw8_ GE_g6.out HB.out)
 have n14_:=Aside0.mk ((text_size7 hw8_).symm ▸ HS.out)
 rw [set7_fold,hw8_]
 clear hw8_ BK_g6 O_d_1 O_t_1 O_c_1 HB HS
 have BK_g6:=n9_
 have O_d_1:=n10_
 have O_t_1:=n11_
 have O_c_1:=n12_
 have HB:=n13_
 have HS:=n14_
 clear n9_ n10_ n11_ n12_ n13_ n14_
 obtain ⟨hx_g6_0,hf_g6_0,hx_g6_1,hf_g6_1,hx_g6_2,hf_g6_2,hx_g6_3,hf_g6_3,hx_g6_4,hf_g6_4,hx_g6_5,hf_g6_5,hx_g6_6,hf_g6_6⟩:=cells7 BK_g6.out
 go_upto_region 6 with (first
  | ((with_reducible refine gate_callee (f:=14) rfl ?_);refine goesL_ (some 30) rfl rfl Try.func14 (by kernel_rfl) rfl #[.agg #[.int .u64 0,.slice A1 l0.length p_1,.slice B1 t0.length q_1,.slice C1 0 r_1,.bool false,.bool false,.bool false]] rfl (by (try simp only [List.map_toArray,List.map_cons,List.map_nil]);first | done | rfl) ?_;refine (supply_Finish.calls 0 _ _ l0 _ _ t0 _ _ [] false false false _ _ _ _ _ _ _ _ (Kd.V_reads' O_d_1.out).2.2 (Kd.V_reads' O_d_1.out).2.1 (Kd.V_reads' O_t_1.out).2.2 (Kd.V_reads' O_t_1.out).2.1 (Kd.V_reads' O_c_1.out).2.2 (Kd.V_reads' O_c_1.out).2.1 PF.out).mono ?_;rintro e_ w5 ⟨u1,u2,u3,rfl,ho1,ho2,ho3,hb⟩;refine ⟨_,rfl,?_⟩;obtain ⟨pf,hpf⟩ : ∃ n_ : Nat,n_ = w4.heap.size:=⟨_,rfl⟩;obtain ⟨qf,hqf⟩ : ∃ n_ : Nat,n_ = w5.heap.size:=⟨_,rfl⟩;replace HCH:=Aside0.mk (And.intro HCH.out (show g6 < pf ∧ pf ≤ qf by have h_:=HS.out;have h2_:=hb.size;omega));have O_d_f:=Aside0.mk (Kd.R_V (base':=w4.heap.size) (Kd.R_mono (Kd.R_bound ho1) (ok':=fun k_ => pf ≤ k_ ∧ k_ < qf) (fun k_ hk_ => ⟨by rw [hpf];exact hk_.2.1,by rw [hqf];exact hk_.2.2.1⟩)));have O_t_f:=Aside0.mk (Kd.R_V (base':=w4.heap.size) (Kd.R_mono (Kd.R_bound ho2) (ok':=fun k_ => pf ≤ k_ ∧ k_ < qf) (fun k_ hk_ => ⟨by rw [hpf];exact hk_.2.1,by rw [hqf];exact hk_.2.2.1⟩)));have O_c_f:=Aside0.mk (Kd.R_V (base':=w4.heap.size) (Kd.R_mono (Kd.R_bound ho3) (ok':=fun k_ => pf ≤ k_ ∧ k_ < qf) (fun k_ hk_ => ⟨by rw [hpf];exact hk_.2.1,by rw [hqf];exact hk_.2.2.1⟩)));clear ho1 ho2 ho3;clear hx_g6_0 hf_g6_0 hx_g6_1 hf_g6_1 hx_g6_2 hf_g6_2 hx_g6_3 hf_g6_3 hx_g6_4 hf_g6_4 hx_g6_5 hf_g6_5 hx_g6_6 hf_g6_6;have n15_:=Aside0.mk (below_step HB.out hb);have n16_:=Aside0.mk ((Nat.lt_of_lt_of_le (show _ < _ from HS.out) hb.size : g6 < w5.heap.size));have n17_:=Aside0.mk (blk_below BK_g6.out hb);have n18_:=Aside0.mk (Kd.V_below O_d_1.out hb);have n19_:=Aside0.mk (Kd.V_below O_t_1.out hb);have n20_:=Aside0.mk (Kd.V_below O_c_1.out hb);clear HB HS BK_g6 O_d_1 O_t_1 O_c_1;have HB:=n15_;have HS:=n16_;have BK_g6:=n17_;have O_d_1:=n18_;have O_t_1:=n19_;have O_c_1:=n20_;clear n15_ n16_ n17_ n18_ n19_ n20_;replace HS:=Aside0.mk (show qf ≤ w5.heap.size by rw [hqf];exact Nat.le_refl _);clear hb hpf hqf;obtain ⟨Af,p_f,eo⟩:=Kd.V_slice O_d_f.out;subst eo;obtain ⟨Bf,q_f,eo⟩:=Kd.V_slice O_t_f.out;subst eo;obtain ⟨Cf,r_f,eo⟩:=Kd.V_slice O_c_f.out;subst eo;clear O_d_1 O_t_1 O_c_1;obtain ⟨hx_g6_0,hf_g6_0,hx_g6_1,hf_g6_1,hx_g6_2,hf_g6_2,hx_g6_3,hf_g6_3,hx_g6_4,hf_g6_4,hx_g6_5,hf_g6_5,hx_g6_6,hf_g6_6⟩:=cells7 BK_g6.out))
 clear hx_g6_0 hf_g6_0 hx_g6_1 hf_g6_1 hx_g6_2 hf_g6_2 hx_g6_3 hf_g6_3 hx_g6_4 hf_g6_4 hx_g6_5 hf_g6_5 hx_g6_6 hf_g6_6
 obtain ⟨w6,hw21_⟩ : ∃ w_ : World,set7 w5 g6 (.int .u64 0) (.slice Af l0.length p_f) (.slice Bf t0.length q_f) (.slice Cf 0 r_f) (.bool true) (.bool true) (.bool false) = w_:=⟨_,rfl⟩
 have n22_:=Aside0.mk (blk7 hw21_ BK_g6.out)
 have n23_:=Aside0.mk (text_V7o hw21_ (fun k_ hk_ => by have h_:=HCH.out;omega) O_d_f.out)
 have n24_:=Aside0.mk (text_V7o hw21_ (fun k_ hk_ => by have h_:=HCH.out;omega) O_t_f.out)
 have n25_:=Aside0.mk (text_V7o hw21_ (fun k_ hk_ => by have h_:=HCH.out;omega) O_c_f.out)
 have n26_:=Aside0.mk (below7 hw21_ GE_g6.out HB.out)
 have n27_:=Aside0.mk ((text_size7 hw21_).symm ▸ HS.out)
 rw [set7_fold,hw21_]
 clear hw21_ BK_g6 O_d_f O_t_f O_c_f HB HS
 have BK_g6:=n22_
 have O_d_f:=n23_
 have O_t_f:=n24_
 have O_c_f:=n25_
 have HB:=n26_
 have HS:=n27_
 clear n22_ n23_ n24_ n25_ n26_ n27_
 go_upto_region 6 with fail
 go_cut [8] from 18 to 30 (fun v8 wc => v8 = .slice none 0 0 ∧ Aside0 (Kd.V (Kd.int .u8) 5 wc w4.heap.size (fun k_ => pf ≤ k_ ∧ k_ < qf) (.slice Af l0.length p_f) (l0)) ∧ Aside0 (Kd.V k37 37 wc w4.heap.size (fun k_ => pf ≤ k_ ∧ k_ < qf) (.slice Bf t0.length q_f) (t0)) ∧ Aside0 (Kd.V k37 37 wc w4.heap.size (fun k_ => pf ≤ k_ ∧ k_ < qf) (.slice Cf 0 r_f) ([])) ∧ Aside0 (wc.heap[g6]? = some (.cells #[.int .u64 0,.slice Af l0.length p_f,.slice Bf t0.length q_f,.slice Cf 0 r_f,.bool true,.bool true,.bool false] 27 (0,0))) ∧ Aside0 (qf ≤ wc.heap.size) ∧ Aside0 (Below w.heap.size w wc))
 case first =>
  go_wp2_with fail
  go_meet
  case rel => exact ⟨rfl,O_d_f,O_t_f,O_c_f,BK_g6,HS,HB⟩
 case rest =>
 clear O_d_f O_t_f O_c_f BK_g6 HS HB
 obtain ⟨rfl,O_d_f,O_t_f,O_c_f,BK_g6,HS,HB⟩:=hcut
 go_upto_block 0 with fail
 go_wp2_with fail
 go_loopg [8,9,10] 60 (fun kq v8 v9 v10 w' => ∃ (i b : Int) (d : List Int) (t c : List S37) (fi ft fc : Bool) (se : List S32) (ca : List S37) (vd vt vc vs va : Value),vs = v8 ∧ va = v9 ∧ v10 = .int .i64 i ∧ Aside0 (0 ≤ i ∧ i + kq = 60) ∧ Aside0 (text_go k l0 l1 kq i.toNat b d t c fi ft fc se ca = some ()) ∧ Aside0 (Kd.V (Kd.int .u8) 5 w' w.heap.size (fun k_ => k_ ≠ g6 ∧ some k_ ≠ (vs : Value).ownBlock) (vd) (d)) ∧ Aside0 (Kd.V k37 37 w' w.heap.size (fun k_ => k_ ≠ g6 ∧ some k_ ≠ (vs : Value).ownBlock) (vt) (t)) ∧ Aside0 (Kd.V k37 37 w' w.heap.size (fun k_ => k_ ≠ g6 ∧ some k_ ≠ (vs : Value).ownBlock) (vc) (c)) ∧ Aside0 (Kd.V k37 37 w' w.heap.size (fun k_ => k_ ≠ g6 ∧ some k_ ≠ (vs : Value).ownBlock) (va) (ca)) ∧ Aside0 (Kd.N k32 32 w' w.heap.size (fun k_ => k_ ≠ g6) (vs) (se)) ∧ Aside0 (w'.heap[g6]? = some (.cells #[.int .u64 b,vd,vt,vc,.bool fi,.bool ft,.bool fc] 27 (0,0))) ∧ Aside0 (Below w.heap.size w w'))
 case atStart => exact ⟨0,0,l0,t0,[],true,true,false,[],[],_,_,_,_,_,rfl,rfl,rfl,⟨by simp⟩,P2,⟨Kd.V_mono O_d_f.out (fun k_ hk_ => ⟨by have h_:=HCH.out;omega,by simp [Value.ownBlock]⟩)⟩,⟨Kd.V_mono O_t_f.out (fun k_ hk_ => ⟨by have h_:=HCH.out;omega,by simp [Value.ownBlock]⟩)⟩,⟨Kd.V_mono O_c_f.out (fun k_ hk_ => ⟨by have h_:=HCH.out;omega,by simp [Value.ownBlock]⟩)⟩,⟨Kd.V_nil _ _ _ _ _⟩,⟨Kd.N_nil _ _ _ _ _⟩,BK_g6,HB⟩
 case round =>
 clear O_d_f O_t_f O_c_f BK_g6 HS HB P2 PW PF
 obtain ⟨i,b,d,t,c,fi,ft,fc,se,ca,vd,vt,vc,vs,va,rfl,rfl,rfl,HI,HQ,O_d,O_t,O_c,O_a,O_s,BK_g6,HB⟩:=hrel
 obtain ⟨pz,hpz⟩ : ∃ n_ : Nat,n_ = wr.heap.size:=⟨_,rfl⟩
 obtain ⟨Ax_s,p_s,eo⟩:=Kd.N_slice O_s.out
 subst eo
 have HVS:=Aside0.mk (Kd.N_lt O_s.out)
 rw [← hpz] at HVS
 replace O_d:=Aside0.mk (Kd.V_mono (Kd.V_bound O_d.out) (ok':=(fun k_ => (k_ ≠ g6 ∧ some k_ ≠ (.slice Ax_s se.length p_s : Value).ownBlock) ∧ k_ < pz)) (fun k_ hk_ => ⟨hk_.1,by rw [hpz];exact hk_.2⟩))
 obtain ⟨Ax_d,p_d,eo⟩:=Kd.V_slice O_d.out
 subst eo
 replace O_t:=Aside0.mk (Kd.V_mono (Kd.V_bound O_t.out) (ok':=(fun k_ => (k_ ≠ g6 ∧ some k_ ≠ (.slice Ax_s se.length p_s : Value).ownBlock) ∧ k_ < pz)) (fun k_ hk_ => ⟨hk_.1,by rw [hpz];exact hk_.2⟩))
 obtain ⟨Ax_t,p_t,eo⟩:=Kd.V_slice O_t.out
 subst eo
 replace O_c:=Aside0.mk (Kd.V_mono (Kd.V_bound O_c.out) (ok':=(fun k_ => (k_ ≠ g6 ∧ some k_ ≠ (.slice Ax_s se.length p_s : Value).ownBlock) ∧ k_ < pz)) (fun k_ hk_ => ⟨hk_.1,by rw [hpz];exact hk_.2⟩))
 obtain ⟨Ax_c,p_c,eo⟩:=Kd.V_slice O_c.out
 subst eo
 replace O_a:=Aside0.mk (Kd.V_mono (Kd.V_bound O_a.out) (ok':=(fun k_ => (k_ ≠ g6 ∧ some k_ ≠ (.slice Ax_s se.length p_s : Value).ownBlock) ∧ k_ < pz)) (fun k_ hk_ => ⟨hk_.1,by rw [hpz];exact hk_.2⟩))
 obtain ⟨Ax_a,p_a,eo⟩:=Kd.V_slice O_a.out
 subst eo
 replace O_s:=Aside0.mk (Kd.N_mono (Kd.N_bound O_s.out) (ok':=(fun k_ => k_ ≠ g6 ∧ k_ < pz)) (fun k_ hk_ => ⟨hk_.1,by rw [hpz];exact hk_.2⟩))
 replace HCH:=Aside0.mk (And.intro HCH.out (show g6 < pz by rw [hpz];exact blk_lt BK_g6.out))
 have HS:=Aside0.mk (show pz ≤ wr.heap.size by rw [hpz];exact Nat.le_refl _)
 clear hpz
 cases gk with
 | zero =>
  have kt : decide (i < 60) = false:=decide_eq_false (by have h_:=HI.out;omega)
  clear HI HQ
  by_cases ci : i < (l1.length : Int)
  ·have cb1 : decide (i < (l1.length : Int)) = true:=decide_eq_true ci
   go_wp2
   go_ret
   exact ⟨rfl,HB.out⟩
  ·have cb1 : decide (i < (l1.length : Int)) = false:=decide_eq_false ci
   go_wp2
   go_ret
   exact ⟨rfl,HB.out⟩
 | succ k1 =>
  have kt : decide (i < 60) = true:=decide_eq_true (by have h_:=HI.out;omega)
  by_cases ci : i < (l1.length : Int)
  case neg =>
   have cb1 : decide (i < (l1.length : Int)) = false:=decide_eq_false ci
   go_wp2
   go_ret
   exact ⟨rfl,HB.out⟩
  case pos =>
   by_cases hkd : (rd_T48 l1 i).f0 = 3
   ·refine text_told k A0 c0 l0 _ c1 l1 w g6 pz k1 wr i b d t c fi ft fc se ca Ax_s Ax_d Ax_t Ax_c Ax_a p_s p_d p_t p_c p_a HR0 HC0 HR1 HC1 HN GE_g6 HVS O_d O_t O_c O_a O_s BK_g6 HB ⟨HCH.out.2⟩ HS HI HQ ci hkd ?J _ _ _ ?hK ?hJ
    case hK => assumption
    case hJ => assumption
   ·refine text_moved k A0 c0 l0 _ c1 l1 w g6 pz k1 wr i b d t c fi ft fc se ca Ax_s Ax_d Ax_t Ax_c Ax_a p_s p_d p_t p_c p_a HR0 HC0 HR1 HC1 HN GE_g6 HVS O_d O_t O_c O_a O_s BK_g6 HB ⟨HCH.out.2⟩ HS HI HQ ci hkd ?J _ _ _ ?hK ?hJ
    case hK => assumption
    case hJ => assumption

end Go.Proofs.Ytadhkamocbhbmaa.P
