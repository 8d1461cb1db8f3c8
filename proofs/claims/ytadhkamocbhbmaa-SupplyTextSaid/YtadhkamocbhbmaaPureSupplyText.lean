/- A stream whose chunks are told,lost,and come,in whatever order: each chunk is the text's part at its place,of places that did not come. -/
import Derived.Test.YtadhkamocbhbmaaStmSupplyText
import Derived.Test.YtadhkamocbhbmaaPx12
import Derived.Test.YtadhkamocbhbmaaPx14
import Derived.Test.YtadhkamocbhbmaaPx2
import Derived.Test.YtadhkamocbhbmaaPx24
import Derived.Test.YtadhkamocbhbmaaPx25
import Derived.Test.YtadhkamocbhbmaaPx26
import Derived.Test.YtadhkamocbhbmaaPx27
import Derived.Test.YtadhkamocbhbmaaPx4
import Derived.Test.YtadhkamocbhbmaaPx7
namespace Go.Proofs.Ytadhkamocbhbmaa.Pure
open Go.RowKit Go.Proofs.Ytadhkamocbhbmaa.P Go.Proofs.YtadhkamocbhbmaaW.PrintWords Go.Proofs.YtadhkamocbhbmaaW.PrintLast Go.Proofs.YtadhkamocbhbmaaW.PrintMore
set_option linter.unusedVariables false
set_option linter.unusedSectionVars false
abbrev Sp:=S37
def Mem (n : Int) (l : List Sp) : Prop:=∃ s ∈ l,s.f0 ≤ n ∧ n < s.f1
def Ok (l : List Sp) : Prop:=(∀ s ∈ l,s.f0 < s.f1) ∧ l.Pairwise (fun a b => a.f1 < b.f0)
theorem mem_nil {n : Int} : ¬ Mem n []:=by intro ⟨s,h,_⟩;cases h
theorem mem_cons {n : Int} {s : Sp} {l : List Sp} : Mem n (s :: l) ↔ (s.f0 ≤ n ∧ n < s.f1) ∨ Mem n l:=by
 constructor
 ·intro ⟨u,h,q⟩
  rcases List.mem_cons.mp h with e | e
  ·rw [e] at q;exact .inl q
  ·exact .inr ⟨u,e,q⟩
 ·intro h
  rcases h with q | ⟨u,e,q⟩
  ·exact ⟨s,List.mem_cons_self ..,q⟩
  ·exact ⟨u,List.mem_cons_of_mem _ e,q⟩
theorem mem_append {n : Int} {a b : List Sp} : Mem n (a ++ b) ↔ Mem n a ∨ Mem n b:=by
 constructor
 ·intro ⟨u,h,q⟩
  rcases List.mem_append.mp h with e | e
  ·exact .inl ⟨u,e,q⟩
  ·exact .inr ⟨u,e,q⟩
 ·intro h
  rcases h with ⟨u,e,q⟩ | ⟨u,e,q⟩
  ·exact ⟨u,List.mem_append_left _ e,q⟩
  ·exact ⟨u,List.mem_append_right _ e,q⟩
theorem mem_one {n : Int} {s : Sp} : Mem n [s] ↔ s.f0 ≤ n ∧ n < s.f1:=by
 rw [mem_cons]
 constructor
 ·intro h
  rcases h with h | h
  ·exact h
  ·exact absurd h mem_nil
 ·exact .inl
theorem ok_nil : Ok []:=⟨by simp,List.Pairwise.nil⟩
theorem ok_cons {s : Sp} {l : List Sp} : Ok (s :: l) ↔ s.f0 < s.f1 ∧ (∀ u ∈ l,s.f1 < u.f0) ∧ Ok l:=by
 unfold Ok
 rw [List.pairwise_cons]
 constructor
 ·intro ⟨h1,h2,h3⟩
  exact ⟨h1 s (List.mem_cons_self ..),h2,fun u hu => h1 u (List.mem_cons_of_mem _ hu),h3⟩
 ·intro ⟨h1,h2,h3,h4⟩
  refine ⟨fun u hu => ?_,h2,h4⟩
  rcases List.mem_cons.mp hu with e | e
  ·rw [e];exact h1
  ·exact h3 u e
theorem ok_append {a b : List Sp} : Ok (a ++ b) ↔ Ok a ∧ Ok b ∧ ∀ x ∈ a,∀ y ∈ b,x.f1 < y.f0:=by
 unfold Ok
 rw [List.pairwise_append]
 constructor
 ·intro ⟨h1,h2,h3,h4⟩
  exact ⟨⟨fun u hu => h1 u (List.mem_append_left _ hu),h2⟩,⟨fun u hu => h1 u (List.mem_append_right _ hu),h3⟩,h4⟩
 ·intro ⟨⟨h1,h2⟩,⟨h3,h4⟩,h5⟩
  refine ⟨fun u hu => ?_,h2,h4,h5⟩
  rcases List.mem_append.mp hu with e | e
  ·exact h1 u e
  ·exact h3 u e
theorem ok_one {s : Sp} (h : s.f0 < s.f1) : Ok [s]:=ok_cons.mpr ⟨h,by simp,ok_nil⟩
theorem ok_mem {l : List Sp} (h : Ok l) {s : Sp} (hs : s ∈ l) : Mem s.f0 l:=⟨s,hs,Int.le_refl _,h.1 s hs⟩
/-- A list of spans,and a set,are one. -/
theorem ok_ext : ∀ {a b : List Sp},Ok a → Ok b → (∀ n,Mem n a ↔ Mem n b) → a = b:=by
 intro a
 induction a with
 | nil =>
  intro b _ hb h
  cases b with
  | nil => rfl
  | cons s t => exact absurd ((h s.f0).mpr (ok_mem hb (List.mem_cons_self ..))) mem_nil
 | cons s t ih =>
  intro b ha hb h
  cases b with
  | nil => exact absurd ((h s.f0).mp (ok_mem ha (List.mem_cons_self ..))) mem_nil
  | cons u v =>
   obtain ⟨a1,a2,a3⟩:=ok_cons.mp ha
   obtain ⟨b1,b2,b3⟩:=ok_cons.mp hb
   have la : ∀ n,Mem n t → s.f1 < n:=by intro n ⟨x,hx,q⟩;have:=a2 x hx;omega
   have lb : ∀ n,Mem n v → u.f1 < n:=by intro n ⟨x,hx,q⟩;have:=b2 x hx;omega
   have e0 : s.f0 = u.f0:=by
    have q1:=mem_cons.mp ((h s.f0).mp (ok_mem ha (List.mem_cons_self ..)))
    have q2:=mem_cons.mp ((h u.f0).mpr (ok_mem hb (List.mem_cons_self ..)))
    rcases q1 with q1 | q1 <;> rcases q2 with q2 | q2
    ·omega
    ·have:=la _ q2;omega
    ·have:=lb _ q1;omega
    ·have:=la _ q2;have:=lb _ q1;omega
   have e1 : s.f1 = u.f1:=by
    by_cases c1 : s.f1 < u.f1
    ·rcases mem_cons.mp ((h s.f1).mpr (mem_cons.mpr (.inl ⟨by omega,c1⟩))) with q | q
     ·omega
     ·have:=la _ q;omega
    ·by_cases c2 : u.f1 < s.f1
     ·rcases mem_cons.mp ((h u.f1).mp (mem_cons.mpr (.inl ⟨by omega,c2⟩))) with q | q
      ·omega
      ·have:=lb _ q;omega
     ·omega
   have es : s = u:=by cases s;cases u;simp only at e0 e1;rw [e0,e1]
   rw [es,ih a3 b3]
   intro n
   constructor
   ·intro q
    rcases mem_cons.mp ((h n).mp (mem_cons.mpr (.inr q))) with r | r
    ·have:=la _ q;omega
    ·exact r
   ·intro q
    rcases mem_cons.mp ((h n).mpr (mem_cons.mpr (.inr q))) with r | r
    ·have:=lb _ q;omega
    ·exact r
/-- What is put in. -/
def addL : List Sp → Int → Int → List Sp
 | [],a,b => [⟨a,b⟩]
 | x :: t,a,b => if x.f1 < a then x :: addL t a b else if b < x.f0 then ⟨a,b⟩ :: x :: t else addL t (if x.f0 < a then x.f0 else a) (if b < x.f1 then x.f1 else b)
theorem addL_ok {l : List Sp} : ∀ {a b : Int},Ok l → a < b → Ok (addL l a b) ∧ ∀ n,Mem n (addL l a b) ↔ Mem n l ∨ (a ≤ n ∧ n < b):=by
 induction l with
 | nil =>
  intro a b _ h
  refine ⟨ok_one h,fun n => ?_⟩
  rw [addL,mem_one]
  constructor
  ·exact .inr
  ·intro q;rcases q with q | q;exact absurd q mem_nil;exact q
 | cons x t ih =>
  intro a b hl h
  obtain ⟨h1,h2,h3⟩:=ok_cons.mp hl
  have lt : ∀ n,Mem n t → x.f1 < n:=by intro n ⟨y,hy,q⟩;have:=h2 y hy;omega
  rw [addL]
  by_cases c1 : x.f1 < a
  ·rw [if_pos c1]
   obtain ⟨o,m⟩:=ih h3 h
   refine ⟨ok_cons.mpr ⟨h1,fun u hu => ?_,o⟩,fun n => ?_⟩
   ·rcases (m u.f0).mp (ok_mem o hu) with q | q
    ·exact lt _ q
    ·omega
   ·rw [mem_cons,mem_cons,m n,or_assoc]
  ·rw [if_neg c1]
   by_cases c2 : b < x.f0
   ·rw [if_pos c2]
    refine ⟨ok_cons.mpr ⟨h,fun u hu => ?_,hl⟩,fun n => ?_⟩
    ·rcases List.mem_cons.mp hu with e | e
     ·rw [e];exact c2
     ·have:=h2 u e
      show b < u.f0
      omega
    ·rw [mem_cons (s:=(⟨a,b⟩ : Sp)),or_comm]
   ·rw [if_neg c2]
    have ea : (if x.f0 < a then x.f0 else a) ≤ a ∧ (if x.f0 < a then x.f0 else a) ≤ x.f0 ∧ ((if x.f0 < a then x.f0 else a) = a ∨ (if x.f0 < a then x.f0 else a) = x.f0):=by split <;> omega
    have eb : b ≤ (if b < x.f1 then x.f1 else b) ∧ x.f1 ≤ (if b < x.f1 then x.f1 else b) ∧ ((if b < x.f1 then x.f1 else b) = b ∨ (if b < x.f1 then x.f1 else b) = x.f1):=by split <;> omega
    generalize (if x.f0 < a then x.f0 else a) = a' at *
    generalize (if b < x.f1 then x.f1 else b) = b' at *
    obtain ⟨o,m⟩:=ih (a:=a') (b:=b') h3 (by omega)
    refine ⟨o,fun n => ?_⟩
    rw [m n,mem_cons]
    constructor
    ·intro q
     rcases q with q | q
     ·exact .inl (.inr q)
     ·by_cases r : a ≤ n ∧ n < b
      ·exact .inr r
      ·exact .inl (.inl (by omega))
    ·intro q
     rcases q with (q | q) | q
     ·exact .inr (by omega)
     ·exact .inl q
     ·exact .inr (by omega)
/-- What is taken out. -/
def cut1 (x : Sp) (a b : Int) : List Sp:=(if x.f0 < (if a < x.f1 then a else x.f1) then [⟨x.f0,if a < x.f1 then a else x.f1⟩] else []) ++ (if (if x.f0 < b then b else x.f0) < x.f1 then [⟨if x.f0 < b then b else x.f0,x.f1⟩] else [])
def cutL (l : List Sp) (a b : Int) : List Sp:=l.flatMap (fun x => cut1 x a b)
theorem cut1_ok {x : Sp} {a b : Int} (h : a < b) : Ok (cut1 x a b) ∧ (∀ n,Mem n (cut1 x a b) ↔ (x.f0 ≤ n ∧ n < x.f1) ∧ ¬ (a ≤ n ∧ n < b)) ∧ ∀ u ∈ cut1 x a b,x.f0 ≤ u.f0 ∧ u.f0 < u.f1 ∧ u.f1 ≤ x.f1:=by
 unfold cut1
 by_cases c1 : a < x.f1 <;> by_cases c2 : x.f0 < b <;> simp only [c1,c2,if_true,if_false]
 ·by_cases d1 : x.f0 < a <;> by_cases d2 : b < x.f1 <;> simp only [d1,d2,if_true,if_false,List.nil_append,List.append_nil]
  ·refine ⟨ok_append.mpr ⟨ok_one d1,ok_one d2,by simpa using h⟩,fun n => ?_,by simp;omega⟩
   rw [mem_append,mem_one,mem_one];simp only;omega
  ·refine ⟨ok_one d1,fun n => ?_,by simp;omega⟩
   rw [mem_one];simp only;omega
  ·refine ⟨ok_one d2,fun n => ?_,by simp;omega⟩
   rw [mem_one];simp only;omega
  ·refine ⟨ok_nil,fun n => ?_,by simp⟩
   constructor
   ·intro q;exact absurd q mem_nil
   ·omega
 ·by_cases d1 : x.f0 < a <;> by_cases d2 : x.f0 < x.f1 <;> simp only [d1,d2,if_true,if_false,List.nil_append,List.append_nil] <;> first | omega | skip
  ·refine ⟨ok_one d2,fun n => ?_,by simp;omega⟩
   rw [mem_one];simp only;omega
  ·refine ⟨ok_nil,fun n => ?_,by simp⟩
   constructor
   ·intro q;exact absurd q mem_nil
   ·omega
 ·by_cases d1 : x.f0 < x.f1 <;> by_cases d2 : b < x.f1 <;> simp only [d1,d2,if_true,if_false,List.nil_append,List.append_nil] <;> first | omega | skip
  ·refine ⟨ok_one d1,fun n => ?_,by simp;omega⟩
   rw [mem_one];simp only;omega
  ·refine ⟨ok_nil,fun n => ?_,by simp⟩
   constructor
   ·intro q;exact absurd q mem_nil
   ·omega
 ·have d1 : ¬ x.f0 < x.f1:=by omega
  simp only [d1,if_false,List.append_nil]
  refine ⟨ok_nil,fun n => ?_,by simp⟩
  constructor
  ·intro q;exact absurd q mem_nil
  ·omega
theorem cutL_ok {l : List Sp} {a b : Int} (hl : Ok l) (h : a < b) : Ok (cutL l a b) ∧ ∀ n,Mem n (cutL l a b) ↔ Mem n l ∧ ¬ (a ≤ n ∧ n < b):=by
 induction l with
 | nil => exact ⟨ok_nil,fun n => ⟨fun q => absurd q mem_nil,fun q => absurd q.1 mem_nil⟩⟩
 | cons x t ih =>
  obtain ⟨h1,h2,h3⟩:=ok_cons.mp hl
  obtain ⟨o,m⟩:=ih h3
  obtain ⟨o1,m1,r1⟩:=cut1_ok (x:=x) h
  have e : cutL (x :: t) a b = cut1 x a b ++ cutL t a b:=by simp [cutL]
  rw [e]
  refine ⟨ok_append.mpr ⟨o1,o,fun u hu y hy => ?_⟩,fun n => ?_⟩
  ·have q:=(m y.f0).mp (ok_mem o hy)
   obtain ⟨⟨z,hz,q⟩,_⟩:=q
   have:=h2 z hz
   have:=r1 u hu
   omega
  ·rw [mem_append,m1 n,m n,mem_cons]
   constructor
   ·intro q
    rcases q with ⟨q,r⟩ | ⟨q,r⟩
    ·exact ⟨.inl q,r⟩
    ·exact ⟨.inr q,r⟩
   ·intro ⟨q,r⟩
    rcases q with q | q
    ·exact .inl ⟨q,r⟩
    ·exact .inr ⟨q,r⟩
/-- What is in two. -/
def joinL (l : List Sp) (s : Sp) : List Sp:=if s.f1 ≤ s.f0 then l else match l.getLast? with
 | none => l ++ [s]
 | some z => if z.f1 < s.f0 then l ++ [s] else if z.f1 < s.f1 then l.dropLast ++ [⟨z.f0,s.f1⟩] else l
theorem joinL_snoc (l : List Sp) (z s : Sp) : joinL (l ++ [z]) s = if s.f1 ≤ s.f0 then l ++ [z] else if z.f1 < s.f0 then l ++ [z] ++ [s] else if z.f1 < s.f1 then l ++ [⟨z.f0,s.f1⟩] else l ++ [z]:=by
 unfold joinL
 simp
theorem join_ok {l : List Sp} {s : Sp} (h : Ok l) (hs : s.f0 < s.f1 → ∀ u ∈ l,u.f0 ≤ s.f0) : Ok (joinL l s) ∧ (∀ n,Mem n (joinL l s) ↔ Mem n l ∨ (s.f0 ≤ n ∧ n < s.f1)) ∧ ∀ u ∈ joinL l s,u ∈ l ∨ (s.f0 < s.f1 ∧ u.f0 ≤ s.f0):=by
 rcases List.eq_nil_or_concat l with rfl | ⟨t,z,rfl⟩
 ·by_cases c : s.f1 ≤ s.f0
  ·have e : joinL [] s = []:=by unfold joinL;rw [if_pos c]
   rw [e]
   refine ⟨ok_nil,fun n => ?_,fun u hu => .inl hu⟩
   constructor
   ·intro q;exact .inl q
   ·intro q;rcases q with q | q;exact q;omega
  ·have e : joinL [] s = [s]:=by unfold joinL;rw [if_neg c];rfl
   rw [e]
   refine ⟨ok_one (by omega),fun n => ?_,fun u hu => .inr ⟨by omega,by rw [List.mem_singleton.mp hu];exact Int.le_refl _⟩⟩
   rw [mem_one]
   constructor
   ·exact .inr
   ·intro q;rcases q with q | q;exact absurd q mem_nil;exact q
 ·simp only [List.concat_eq_append] at h hs ⊢
  rw [joinL_snoc]
  by_cases c : s.f1 ≤ s.f0
  ·rw [if_pos c]
   refine ⟨h,fun n => ?_,fun u hu => .inl hu⟩
   constructor
   ·intro q;exact .inl q
   ·intro q;rcases q with q | q;exact q;omega
  ·rw [if_neg c]
   have hs:=hs (by omega)
   have hz:=hs z (List.mem_append_right _ (List.mem_singleton.mpr rfl))
   obtain ⟨h1,h2,h3⟩:=ok_append.mp h
   have hz1:=h2.1 z (List.mem_singleton.mpr rfl)
   by_cases c1 : z.f1 < s.f0
   ·rw [if_pos c1]
    refine ⟨ok_append.mpr ⟨h,ok_one (by omega),fun x hx y hy => ?_⟩,fun n => ?_,fun u hu => ?_⟩
    ·rw [List.mem_singleton.mp hy]
     rcases List.mem_append.mp hx with q | q
     ·have:=h3 x q z (List.mem_singleton.mpr rfl);omega
     ·rw [List.mem_singleton.mp q];exact c1
    ·rw [mem_append,mem_one]
    ·rcases List.mem_append.mp hu with q | q
     ·exact .inl q
     ·rw [List.mem_singleton.mp q];exact .inr ⟨by omega,Int.le_refl _⟩
   ·rw [if_neg c1]
    by_cases c2 : z.f1 < s.f1
    ·rw [if_pos c2]
     refine ⟨ok_append.mpr ⟨h1,ok_one (show z.f0 < s.f1 by omega),fun x hx y hy => ?_⟩,fun n => ?_,fun u hu => ?_⟩
     ·rw [List.mem_singleton.mp hy]
      exact h3 x hx z (List.mem_singleton.mpr rfl)
     ·rw [mem_append,mem_one,mem_append,mem_one,or_assoc]
      simp only
      constructor
      ·intro q
       rcases q with q | q
       ·exact .inl q
       ·by_cases d : n < z.f1
        ·exact .inr (.inl (by omega))
        ·exact .inr (.inr (by omega))
      ·intro q
       rcases q with q | q | q
       ·exact .inl q
       ·exact .inr (by omega)
       ·exact .inr (by omega)
     ·rcases List.mem_append.mp hu with q | q
      ·exact .inl (List.mem_append_left _ q)
      ·rw [List.mem_singleton.mp q];exact .inr ⟨by omega,hz⟩
    ·rw [if_neg c2]
     refine ⟨h,fun n => ?_,fun u hu => .inl hu⟩
     constructor
     ·intro q;exact .inl q
     ·intro q
      rcases q with q | q
      ·exact q
      ·exact mem_append.mpr (.inr (mem_one.mpr (by omega)))
def Le0 (x y : Sp) : Prop:=x.f0 < x.f1 → y.f0 < y.f1 → x.f0 ≤ y.f0
theorem joins_ok : ∀ (ps : List Sp) {l : List Sp},Ok l → ps.Pairwise Le0 → (∀ u ∈ l,∀ p ∈ ps,p.f0 < p.f1 → u.f0 ≤ p.f0) → Ok (ps.foldl joinL l) ∧ ∀ n,Mem n (ps.foldl joinL l) ↔ Mem n l ∨ Mem n ps:=by
 intro ps
 induction ps with
 | nil => intro l h _ _;exact ⟨h,fun n => ⟨.inl,fun q => by rcases q with q | q;exact q;exact absurd q mem_nil⟩⟩
 | cons p ps ih =>
  intro l h hp hl
  obtain ⟨p1,p2⟩:=List.pairwise_cons.mp hp
  obtain ⟨o,m,b⟩:=join_ok h (fun c u hu => hl u hu p (List.mem_cons_self ..) c)
  obtain ⟨o2,m2⟩:=ih o p2 (fun u hu q hq c => by
   rcases b u hu with r | ⟨r1,r2⟩
   ·exact hl u r q (List.mem_cons_of_mem _ hq) c
   ·have:=p1 q hq r1 c;omega)
  refine ⟨o2,fun n => ?_⟩
  show Mem n (ps.foldl joinL (joinL l p)) ↔ _
  rw [m2 n,m n,mem_cons,or_assoc]
theorem joins_nil {ps : List Sp} (h : ps.Pairwise Le0) : Ok (ps.foldl joinL []) ∧ ∀ n,Mem n (ps.foldl joinL []) ↔ Mem n ps:=by
 obtain ⟨o,m⟩:=joins_ok ps ok_nil h (by simp)
 refine ⟨o,fun n => ?_⟩
 rw [m n]
 constructor
 ·intro q;rcases q with q | q;exact absurd q mem_nil;exact q
 ·exact .inr
/-- Whatever order joins in gives the set's one list. -/
theorem joins_eq {ps l : List Sp} (h : ps.Pairwise Le0) (hl : Ok l) (hm : ∀ n,Mem n l ↔ Mem n ps) : ps.foldl joinL [] = l:=by
 obtain ⟨o,m⟩:=joins_nil h
 exact ok_ext o hl (fun n => (m n).trans (hm n).symm)
theorem ok_le0 {l : List Sp} (h : Ok l) : l.Pairwise Le0:=by
 refine List.Pairwise.imp_of_mem ?_ h.2
 intro a b ha hb r _ _
 have:=h.1 a ha
 omega
/-- A span put into its place. -/
def insL : List Sp → Sp → List Sp
 | [],s => [s]
 | x :: t,s => if s.f0 ≤ x.f0 then s :: x :: t else x :: insL t s
theorem mem_ins {l : List Sp} {s : Sp} {n : Int} : Mem n (insL l s) ↔ Mem n l ∨ (s.f0 ≤ n ∧ n < s.f1):=by
 induction l with
 | nil =>
  rw [insL,mem_one]
  constructor
  ·exact .inr
  ·intro q
   rcases q with q | q
   ·exact absurd q mem_nil
   ·exact q
 | cons x t ih =>
  rw [insL]
  split
  ·rw [mem_cons,or_comm]
  ·rw [mem_cons,mem_cons,ih,or_assoc]
theorem in_ins {l : List Sp} {s u : Sp} (h : u ∈ insL l s) : u = s ∨ u ∈ l:=by
 induction l with
 | nil => exact .inl (List.mem_singleton.mp h)
 | cons x t ih =>
  rw [insL] at h
  split at h
  ·rcases List.mem_cons.mp h with q | q
   ·exact .inl q
   ·exact .inr q
  ·rcases List.mem_cons.mp h with q | q
   ·exact .inr (by rw [q];exact List.mem_cons_self ..)
   ·rcases ih q with r | r
    ·exact .inl r
    ·exact .inr (List.mem_cons_of_mem _ r)
theorem ins_le0 {l : List Sp} {s : Sp} (h : Ok l) : (insL l s).Pairwise Le0:=by
 induction l with
 | nil => rw [insL];simp
 | cons x t ih =>
  obtain ⟨h1,h2,h3⟩:=ok_cons.mp h
  rw [insL]
  split
  ·rename_i c
   refine List.pairwise_cons.mpr ⟨fun u hu _ _ => ?_,ok_le0 h⟩
   rcases List.mem_cons.mp hu with q | q
   ·rw [q];exact c
   ·have:=h2 u q;omega
  ·rename_i c
   refine List.pairwise_cons.mpr ⟨fun u hu _ _ => ?_,ih h3⟩
   rcases in_ins hu with q | q
   ·rw [q];omega
   ·have:=h2 u q;omega
/-- What two spans both have. -/
theorem radd_eq {l : List Sp} {a b : Int} (hl : Ok l) (h : a < b) : (insL l ⟨a,b⟩).foldl joinL [] = addL l a b:=by
 obtain ⟨o,m⟩:=addL_ok hl h
 exact joins_eq (ins_le0 hl) o (fun n => by rw [m n,mem_ins])
theorem join_empty {l : List Sp} {s : Sp} (h : s.f1 ≤ s.f0) : joinL l s = l:=by unfold joinL;rw [if_pos h]
theorem joins_self {l : List Sp} (h : Ok l) : l.foldl joinL [] = l:=joins_eq (ok_le0 h) h (fun _ => Iff.rfl)
theorem radd_none {l : List Sp} {s : Sp} (hl : Ok l) (h : s.f1 ≤ s.f0) : (insL l s).foldl joinL [] = l:=by
 refine joins_eq (ins_le0 hl) hl (fun n => ?_)
 rw [mem_ins]
 constructor
 ·exact .inl
 ·intro q;rcases q with q | q;exact q;omega
theorem sp_rd {l : List Sp} {j : Nat} (h : j < l.length) : rd_T37 l (j : Int) = l[j]:=by
 unfold rd_T37
 rw [Int.toNat_natCast,List.getD_eq_getElem?_getD,List.getElem?_eq_getElem h]
 rfl
theorem sp_up {j n : Nat} (h : j < n) (hn : n < 1000000) : wrap64 ((j : Int) + 1) = ((j + 1 : Nat) : Int):=by unfold wrap64;omega
theorem sp_dn {j n : Nat} (h : j < n) (hn : n < 1000000) : wrap64 (((j + 1 : Nat) : Int) - 1) = (j : Int):=by unfold wrap64;omega
theorem clone_eq {l : List Sp} (h : l.length < 1000000) : api_Span.f l = some l:=by
 unfold api_Span.f
 rw [Option.bind_some,if_pos (by simp;omega),List.nil_append]
theorem add_loop {l : List Sp} (hn : l.length < 1000000) (d : Nat) : ∀ (j k : Nat) (out : List Sp) (a b : Int),j + d = l.length → d + 1 ≤ k → out.length ≤ j → span_Add.l0 k l out (j : Int) a b = some (out ++ addL (l.drop j) a b):=by
 induction d with
 | zero =>
  intro j k out a b hj hk ho
  obtain ⟨k,rfl⟩ : ∃ m,k = m + 1:=⟨k - 1,by omega⟩
  have e : l.drop j = []:=List.drop_eq_nil_of_le (by omega)
  rw [span_Add.l0,if_neg (by omega),if_pos (by omega),Option.bind_some,if_pos (by omega),if_pos (by omega),Option.bind_some,Int.toNat_natCast,e,if_pos (by simp;omega)]
  rw [addL,List.append_nil]
 | succ d ih =>
  intro j k out a b hj hk ho
  obtain ⟨k,rfl⟩ : ∃ m,k = m + 1:=⟨k - 1,by omega⟩
  have hjl : j < l.length:=by omega
  have e:=List.drop_eq_getElem_cons hjl
  rw [span_Add.l0,if_pos (by omega),if_pos (by omega),sp_rd hjl,sp_up hjl hn]
  by_cases c1 : (l[j]).f1 < a
  ·rw [if_pos c1,if_pos (by omega),ih (j + 1) k _ a b (by omega) (by omega) (by simp;omega),e,addL,if_pos c1,List.append_assoc]
   rfl
  ·rw [if_neg c1]
   by_cases c2 : b < (l[j]).f0
   ·rw [if_pos c2,if_pos (by omega),Option.bind_some,if_pos (by omega),Option.bind_some,Int.toNat_natCast,if_pos (by simp;omega),e,addL,if_neg c1,if_pos c2,List.append_assoc]
    rfl
   ·rw [if_neg c2,ih (j + 1) k out _ _ (by omega) (by omega) (by omega),e,addL,if_neg c1,if_neg c2]
    rfl
def addS (l : List Sp) (a b : Int) : List Sp:=if b ≤ a then l else addL l a b
def cutS (l : List Sp) (a b : Int) : List Sp:=if b ≤ a then l else cutL l a b
theorem add_eq {l : List Sp} (hn : l.length < 1000000) {a b : Int} {k : Nat} (hk : l.length + 1 ≤ k) : span_Add.f k l a b = some (addS l a b):=by
 unfold span_Add.f addS
 by_cases c : b ≤ a
 ·rw [if_pos c,if_pos c,clone_eq hn];rfl
 ·rw [if_neg c,if_neg c]
  exact add_loop hn l.length 0 k [] a b (by omega) (by omega) (by simp)
theorem cut_fold (a b : Int) : ∀ (l o : List Sp),l.foldl (fun out x => span_Cut_1.add (span_Cut_1.add out x.f0 (mn x.f1 a)) (mx x.f0 b) x.f1) o = o ++ cutL l a b
 | [],o => by simp [cutL]
 | x :: l,o => by
  rw [List.foldl_cons,cut_fold a b l]
  have e : cutL (x :: l) a b = cut1 x a b ++ cutL l a b:=by simp [cutL]
  rw [e,← List.append_assoc]
  congr 1
  unfold span_Cut_1.add cut1 mn mx
  rw [List.append_assoc]
theorem cut_eq {l : List Sp} (hn : l.length < 1000000) {a b : Int} : span_Cut.f l a b = some (cutS l a b):=by
 unfold span_Cut.f cutS
 by_cases c : b ≤ a
 ·rw [if_pos c,if_pos c,clone_eq hn]
 ·rw [if_neg c,if_neg c,if_pos (by omega)]
  unfold span_Cut.fold
  rw [cut_fold,List.nil_append]
theorem addS_ok {l : List Sp} {a b : Int} (h : Ok l) : Ok (addS l a b) ∧ ∀ n,Mem n (addS l a b) ↔ Mem n l ∨ (a ≤ n ∧ n < b):=by
 unfold addS
 by_cases c : b ≤ a
 ·rw [if_pos c]
  refine ⟨h,fun n => ⟨.inl,fun q => ?_⟩⟩
  rcases q with q | q
  ·exact q
  ·omega
 ·rw [if_neg c];exact addL_ok h (by omega)
theorem cutS_ok {l : List Sp} {a b : Int} (h : Ok l) : Ok (cutS l a b) ∧ ∀ n,Mem n (cutS l a b) ↔ Mem n l ∧ ¬ (a ≤ n ∧ n < b):=by
 unfold cutS
 by_cases c : b ≤ a
 ·rw [if_pos c]
  exact ⟨h,fun n => ⟨fun q => ⟨q,by omega⟩,fun q => q.1⟩⟩
 ·rw [if_neg c];exact cutL_ok h (by omega)
theorem addL_len : ∀ (l : List Sp) (a b : Int),(addL l a b).length ≤ l.length + 1
 | [],a,b => by simp [addL]
 | x :: t,a,b => by
  rw [addL]
  have h1:=addL_len t a b
  have h2:=addL_len t (if x.f0 < a then x.f0 else a) (if b < x.f1 then x.f1 else b)
  split
  ·simp only [List.length_cons];omega
  ·split
   ·simp
   ·simp only [List.length_cons];omega
theorem addS_len (l : List Sp) (a b : Int) : (addS l a b).length ≤ l.length + 1:=by
 unfold addS
 split
 ·omega
 ·exact addL_len l a b
theorem cut1_len (x : Sp) (a b : Int) : (cut1 x a b).length ≤ 2:=by
 have h : ∀ (c : Prop) [Decidable c] (y : Sp),(if c then [y] else []).length ≤ 1:=by intro c _ y;split <;> simp
 unfold cut1
 rw [List.length_append]
 have h1:=h (x.f0 < (if a < x.f1 then a else x.f1)) ⟨x.f0,if a < x.f1 then a else x.f1⟩
 have h2:=h ((if x.f0 < b then b else x.f0) < x.f1) ⟨if x.f0 < b then b else x.f0,x.f1⟩
 omega
theorem cutL_len : ∀ (l : List Sp) (a b : Int),(cutL l a b).length ≤ 2 * l.length
 | [],a,b => by simp [cutL]
 | x :: t,a,b => by
  have e : cutL (x :: t) a b = cut1 x a b ++ cutL t a b:=by simp [cutL]
  have h1:=cut1_len x a b
  have h2:=cutL_len t a b
  rw [e,List.length_append,List.length_cons]
  omega
theorem cutS_len (l : List Sp) (a b : Int) : (cutS l a b).length ≤ 2 * l.length:=by
 unfold cutS
 split
 ·omega
 ·exact cutL_len l a b
instance (n : Int) (l : List Sp) : Decidable (Mem n l):=inferInstanceAs (Decidable (∃ s ∈ l,s.f0 ≤ n ∧ n < s.f1))
theorem rhas_loop {l : List Sp} (hn : l.length < 1000000) (n : Int) (d : Nat) : ∀ (j k : Nat),j + d = l.length → d + 1 ≤ k → wigwagref07_Has.l0 k l n (j : Int) = some (decide (Mem n (l.drop j))):=by
 induction d with
 | zero =>
  intro j k hj hk
  obtain ⟨k,rfl⟩ : ∃ m,k = m + 1:=⟨k - 1,by omega⟩
  rw [wigwagref07_Has.l0,if_neg (by omega),List.drop_eq_nil_of_le (by omega),decide_eq_false mem_nil]
 | succ d ih =>
  intro j k hj hk
  obtain ⟨k,rfl⟩ : ∃ m,k = m + 1:=⟨k - 1,by omega⟩
  have hjl : j < l.length:=by omega
  rw [wigwagref07_Has.l0,if_pos (by omega),if_pos (by omega),sp_rd hjl,List.drop_eq_getElem_cons hjl,sp_up hjl hn,ih (j + 1) k (by omega) (by omega)]
  by_cases h1 : (l[j]).f0 ≤ n
  ·rw [if_pos h1]
   by_cases h2 : n < (l[j]).f1
   ·rw [if_pos h2,decide_eq_true (mem_cons.mpr (.inl ⟨h1,h2⟩))]
   ·rw [if_neg h2]
    congr 1
    apply decide_eq_decide.mpr
    rw [mem_cons]
    constructor
    ·exact .inr
    ·intro q;rcases q with q | q;omega;exact q
  ·rw [if_neg h1]
   congr 1
   apply decide_eq_decide.mpr
   rw [mem_cons]
   constructor
   ·exact .inr
   ·intro q;rcases q with q | q;omega;exact q
theorem rhas_eq {l : List Sp} (hn : l.length < 1000000) (n : Int) {k : Nat} (hk : l.length + 1 ≤ k) : wigwagref07_Has.f k l n = some (decide (Mem n l)):=by
 unfold wigwagref07_Has.f
 exact rhas_loop hn n l.length 0 k (by omega) (by omega)
theorem joined_eq {l : List Sp} (hn : l.length < 1000000) (a b : Int) {k : Nat} (hk : 1 ≤ k) : wigwagref07_joined.f k l a b = some (joinL l ⟨a,b⟩):=by
 obtain ⟨k,rfl⟩ : ∃ m,k = m + 1:=⟨k - 1,by omega⟩
 unfold wigwagref07_joined.f
 by_cases c : b ≤ a
 ·rw [if_pos c]
  unfold joinL
  rw [if_pos c]
 ·rw [if_neg c]
  rcases List.eq_nil_or_concat l with rfl | ⟨t,z,rfl⟩
  ·rw [if_pos (by simp),wigwagref07_joined.j0,if_pos rfl]
   unfold joinL
   rw [if_neg c]
   simp
  ·rw [List.concat_eq_append] at hn ⊢
   have e1 : wrap64 (((t ++ [z]).length : Int) - 1) = (t.length : Int):=by simp at hn ⊢;unfold wrap64;omega
   have e2 : rd_T37 (t ++ [z]) (t.length : Int) = z:=by rw [sp_rd (by simp)];simp
   rw [if_neg (by simp;omega),e1,if_pos (by omega),if_pos (by simp;omega),e2,wigwagref07_joined.j0,joinL_snoc,if_neg c]
   by_cases c1 : z.f1 < a
   ·rw [decide_eq_true c1,if_pos rfl,if_pos c1,Option.bind_some,if_pos (by simp at hn ⊢;omega),Option.bind_some,Option.bind_some,if_pos (by simp at hn ⊢;omega),List.nil_append]
   ·rw [decide_eq_false c1,if_neg (by simp),if_neg c1,Option.bind_some,if_pos (by simp at hn ⊢;omega),Option.bind_some,List.nil_append,e1,if_pos (by omega),if_pos (by simp;omega),e2]
    by_cases c2 : z.f1 < b
    ·rw [if_pos c2,if_pos c2,Int.toNat_natCast]
     congr 1
     simp
    ·rw [if_neg c2,if_neg c2]
theorem joined_sp {l : List Sp} (hn : l.length < 1000000) (s : Sp) {k : Nat} (hk : 1 ≤ k) : wigwagref07_joined.f k l s.f0 s.f1 = some (joinL l s):=joined_eq hn s.f0 s.f1 hk
theorem joinL_len (l : List Sp) (s : Sp) : (joinL l s).length ≤ l.length + 1:=by
 rcases List.eq_nil_or_concat l with rfl | ⟨t,z,rfl⟩
 ·unfold joinL
  split
  ·simp
  ·simp
 ·rw [List.concat_eq_append,joinL_snoc]
  split
  ·simp
  ·split
   ·simp
   ·split <;> simp
theorem radd_loop {l : List Sp} (hn : l.length < 100000) (a b : Int) (d : Nat) : ∀ (j k : Nat) (out : List Sp) (done : Bool),j + d = l.length → 2 * d + 2 ≤ k → out.length + 2 * d < 900000 → wigwagref07_Add.l0 k l out done (j : Int) a b = some ((if done then l.drop j else insL (l.drop j) ⟨a,b⟩).foldl joinL out):=by
 induction d with
 | zero =>
  intro j k out done hj hk ho
  obtain ⟨k,rfl⟩ : ∃ m,k = m + 1:=⟨k - 1,by omega⟩
  rw [wigwagref07_Add.l0,if_neg (by omega),List.drop_eq_nil_of_le (by omega)]
  cases done with
  | true => rfl
  | false => rw [if_neg (by simp),if_neg (by simp),joined_eq (by omega) a b (by omega)];rfl
 | succ d ih =>
  intro j k out done hj hk ho
  obtain ⟨k,rfl⟩ : ∃ m,k = m + 2:=⟨k - 2,by omega⟩
  have hjl : j < l.length:=by omega
  have n1 : (joinL out ⟨a,b⟩).length ≤ out.length + 1:=joinL_len _ _
  have n2 : (joinL out (l[j])).length ≤ out.length + 1:=joinL_len _ _
  have n3 : (joinL (joinL out ⟨a,b⟩) (l[j])).length ≤ out.length + 2:=by have:=joinL_len (joinL out ⟨a,b⟩) (l[j]);omega
  have J1 : ∀ (o : List Sp),o.length < 1000000 → wigwagref07_joined.f k o (l[j]).f0 (l[j]).f1 = some (joinL o (l[j])):=fun o h => joined_eq h _ _ (by omega)
  rw [wigwagref07_Add.l0,if_pos (by omega)]
  cases done with
  | true =>
   rw [if_pos rfl,wigwagref07_Add.j1,if_neg (by simp),if_pos (by omega),if_pos (by omega),sp_rd hjl,J1 _ (by omega),Option.bind_some,sp_up hjl (by omega),ih (j + 1) k _ true (by omega) (by omega) (by omega),List.drop_eq_getElem_cons hjl]
   rfl
  | false =>
   rw [if_neg (by simp),if_pos (by omega),sp_rd hjl,wigwagref07_Add.j1,List.drop_eq_getElem_cons hjl,insL]
   by_cases c : a ≤ (l[j]).f0
   ·rw [decide_eq_true c,if_pos rfl,joined_eq (by omega) a b (by omega),Option.bind_some,if_pos (by omega),if_pos (by omega),sp_rd hjl,J1 _ (by omega),Option.bind_some,sp_up hjl (by omega),ih (j + 1) k _ true (by omega) (by omega) (by omega),if_pos c]
    rfl
   ·rw [decide_eq_false c,if_neg (by simp),if_pos (by omega),if_pos (by omega),sp_rd hjl,J1 _ (by omega),Option.bind_some,sp_up hjl (by omega),ih (j + 1) k _ false (by omega) (by omega) (by omega),if_neg c]
    rfl
theorem rfadd_eq {l : List Sp} (hn : l.length < 100000) (hl : Ok l) (a b : Int) {k : Nat} (hk : 2 * l.length + 2 ≤ k) : wigwagref07_Add.f k l a b = some (addS l a b):=by
 unfold wigwagref07_Add.f addS
 rw [show (0 : Int) = ((0 : Nat) : Int) from rfl,radd_loop hn a b l.length 0 k [] false (by omega) hk (by simp;omega),List.drop_zero]
 show some ((insL l ⟨a,b⟩).foldl joinL []) = _
 by_cases c : b ≤ a
 ·rw [if_pos c,radd_none hl c]
 ·rw [if_neg c,radd_eq hl (by omega)]
/-- A list of spans within bounds is short. -/
theorem ok_len {hi : Int} : ∀ {l : List Sp} {lo : Int},Ok l → (∀ x,Mem x l → lo ≤ x ∧ x < hi) → lo ≤ hi → (l.length : Int) ≤ hi - lo
 | [],lo,_,_,h => by simp;omega
 | s :: t,lo,ho,hm,h => by
  obtain ⟨h1,h2,h3⟩:=ok_cons.mp ho
  have a1:=hm s.f0 (ok_mem ho (List.mem_cons_self ..))
  have a2:=hm (s.f1 - 1) ⟨s,List.mem_cons_self ..,by omega,by omega⟩
  have h4 : ∀ x,Mem x t → s.f1 ≤ x ∧ x < hi:=by
   intro x hx
   have h5:=(hm x (mem_cons.mpr (.inr hx))).2
   obtain ⟨u,hu,q⟩:=hx
   have:=h2 u hu
   omega
  have:=ok_len h3 h4 (by omega)
  simp only [List.length_cons]
  omega
theorem ok_short {l : List Sp} {lo hi : Int} (h : Ok l) (hm : ∀ x,Mem x l → lo ≤ x ∧ x < hi) (h0 : 0 ≤ lo) (h1 : hi ≤ 300) : l.length ≤ 300:=by
 by_cases c : lo ≤ hi
 ·have:=ok_len h hm c
  omega
 ·cases l with
  | nil => simp
  | cons s t =>
   have:=hm s.f0 (ok_mem h (List.mem_cons_self ..))
   omega
theorem wid {x : Int} (h0 : 0 ≤ x) (h1 : x ≤ 9223372036854775807) : IntKind.u64.wrap x = x:=by rw [IntKind.wrap_u64];omega
/-- The places of a list are cut out,one span behind the other. -/
theorem cuts_ok : ∀ {l x : List Sp} {lo hi : Int},Ok x → (∀ n,Mem n x → lo ≤ n ∧ n < hi) → 0 ≤ lo → hi ≤ 300 → ∃ y,supply_cuts x l = some y ∧ Ok y ∧ ∀ n,Mem n y ↔ Mem n x ∧ ¬ Mem n l
 | [],x,lo,hi,ho,hm,h0,h1 => ⟨x,rfl,ho,fun n => ⟨fun q => ⟨q,mem_nil⟩,fun q => q.1⟩⟩
 | s :: t,x,lo,hi,ho,hm,h0,h1 => by
  have hl:=ok_short ho hm h0 h1
  obtain ⟨o1,m1⟩:=cutS_ok (a:=s.f0) (b:=s.f1) ho
  obtain ⟨y,hy,oy,my⟩:=cuts_ok (l:=t) o1 (fun n hn => hm n ((m1 n).mp hn).1) h0 h1
  refine ⟨y,?_,oy,fun n => ?_⟩
  ·unfold supply_cuts
   rw [cut_eq (by omega),Option.bind_some]
   exact hy
  ·rw [my n,m1 n,mem_cons]
   constructor
   ·intro ⟨⟨q1,q2⟩,q3⟩
    exact ⟨q1,fun q => q.elim q2 q3⟩
   ·intro ⟨q1,q2⟩
    exact ⟨⟨q1,fun q => q2 (.inl q)⟩,fun q => q2 (.inr q)⟩
/-- The places of a list are put in,one span behind the other. -/
theorem adds_ok {k : Nat} (hk : 1000 ≤ k) : ∀ {l x : List Sp} {lo hi : Int},Ok x → (∀ n,Mem n x → lo ≤ n ∧ n < hi) → (∀ n,Mem n l → lo ≤ n ∧ n < hi) → 0 ≤ lo → hi ≤ 300 → ∃ y,supply_adds k x l = some y ∧ Ok y ∧ ∀ n,Mem n y ↔ Mem n x ∨ Mem n l
 | [],x,lo,hi,ho,hm,hm2,h0,h1 => ⟨x,rfl,ho,fun n => ⟨.inl,fun q => q.elim id (fun q => absurd q mem_nil)⟩⟩
 | s :: t,x,lo,hi,ho,hm,hm2,h0,h1 => by
  have hl:=ok_short ho hm h0 h1
  obtain ⟨o1,m1⟩:=addS_ok (a:=s.f0) (b:=s.f1) ho
  obtain ⟨y,hy,oy,my⟩:=adds_ok hk (l:=t) (lo:=lo) (hi:=hi) o1 (fun n hn => ((m1 n).mp hn).elim (hm n) (fun q => hm2 n (mem_cons.mpr (.inl q)))) (fun n hn => hm2 n (mem_cons.mpr (.inr hn))) h0 h1
  refine ⟨y,?_,oy,fun n => ?_⟩
  ·unfold supply_adds
   rw [add_eq (by omega) (by omega),Option.bind_some]
   exact hy
  ·rw [my n,m1 n,mem_cons,or_assoc]
/-- What stands of a stream,and what came of it. -/
structure Inv (p : List Int) (b : Int) (d : List Int) (t c : List Sp) (se : List S32) (ca : List Sp) : Prop where
 b0 : 0 ≤ b
 b1 : b ≤ (p.length : Int)
 hd : d = p.drop b.toNat
 ot : Ok t
 oc : Ok c
 oa : Ok ca
 bt : ∀ x,Mem x t → b ≤ x ∧ x < (p.length : Int)
 bc : ∀ x,Mem x c → b ≤ x ∧ x < (p.length : Int)
 ba : ∀ x,Mem x ca ↔ Mem x c ∨ (0 ≤ x ∧ x < b)
 tc : ∀ x,Mem x t → ¬ Mem x c
 hs : ∀ s ∈ se,0 ≤ s.f0 ∧ s.f0 + (s.f1.length : Int) ≤ (p.length : Int)
section
variable {p : List Int} {b : Int} {d : List Int} {t c : List Sp} {se : List S32} {ca : List Sp} (hn : p.length ≤ 300) (H : Inv p b d t c se ca)
include hn H
theorem inv_dl : b + (d.length : Int) = (p.length : Int):=by
 have:=H.b0;have:=H.b1
 rw [H.hd,List.length_drop];omega
theorem inv_t : t.length ≤ 300:=ok_short H.ot H.bt H.b0 (by omega)
theorem inv_c : c.length ≤ 300:=ok_short H.oc H.bc H.b0 (by omega)
theorem inv_ca : ca.length ≤ 300:=ok_short (lo:=0) (hi:=(p.length : Int)) H.oa (fun x hx => by
 have:=H.b0;have:=H.b1
 rcases (H.ba x).mp hx with q | q
 ·have:=H.bc x q;omega
 ·omega) (by omega) (by omega)
/-- The text's part between two places,out of what stands. -/
theorem inv_cut {z a : Int} (h0 : b ≤ a) (h1 : a ≤ z) (h2 : z ≤ (p.length : Int)) : (d.take (z - b).toNat).drop (a - b).toNat = (p.take z.toNat).drop a.toNat ∧ (((p.take z.toNat).drop a.toNat).length : Int) = z - a:=by
 have:=H.b0
 constructor
 ·rw [H.hd,show (z - b).toNat = z.toNat - b.toNat by omega,← List.drop_take,List.drop_drop]
  congr 1
  omega
 ·rw [List.length_drop,List.length_take];omega
/-- The places of a chunk that are neither below the base nor behind the end. -/
theorem inv_places {off : Int} {m : Nat} (h0 : 0 ≤ off) (h1 : off + (m : Int) ≤ (p.length : Int)) :
  ∃ p1 p2,supply_places.f b off (IntKind.u64.wrap (b + IntKind.u64.wrap (d.length : Int))) m = (p1,p2) ∧ ∀ x,(p1 ≤ x ∧ x < p2) ↔ (off ≤ x ∧ x < off + (m : Int) ∧ b ≤ x):=by
 have hl:=inv_dl hn H
 have:=H.b0;have:=H.b1
 have w1 : IntKind.u64.wrap (d.length : Int) = (d.length : Int):=wid (by omega) (by omega)
 have w2 : IntKind.u64.wrap (b + (d.length : Int)) = (p.length : Int):=by rw [wid (by omega) (by omega)];omega
 have w3 : IntKind.u64.wrap (m : Int) = (m : Int):=wid (by omega) (by omega)
 have w4 : IntKind.u64.wrap (off + (m : Int)) = off + (m : Int):=wid (by omega) (by omega)
 unfold supply_places.f
 rw [w1,w2,w3,w4]
 by_cases c : (p.length : Int) ≤ off
 ·rw [if_pos c]
  exact ⟨_,_,rfl,fun x => by omega⟩
 ·rw [if_neg c]
  refine ⟨_,_,rfl,fun x => ?_⟩
  unfold mx mn
  split <;> split <;> constructor <;> intro q <;> omega
/-- What is told next. -/
theorem inv_tell {size lim : Int} {ft : Bool} {k : Nat} (hk : 1000 ≤ k) (hs : size ≤ 9223372036854775807) (h : ¬ text_none size lim t ft = true) :
  ∃ off tz t2 m cf,text_tell size lim b d t ft = some (off,tz,t2,m,cf) ∧ text_ok p size lim off m cf ∧ text_free k ca off m.length = true ∧ Inv p b d t2 c (se ++ [⟨off,m,cf⟩]) ca:=by
 have hl:=inv_dl hn H
 have ht:=inv_t hn H
 have hb0:=H.b0
 have hb1:=H.b1
 have hca:=inv_ca hn H
 unfold text_none at h
 unfold text_tell
 by_cases e : t.length = 0
 ·rw [if_pos e] at h ⊢
  have hf : ft = true:=by cases ft <;> simp at h ⊢
  have e0 : t = []:=List.eq_nil_of_length_eq_zero e
  subst e0
  refine ⟨_,_,_,_,_,by rw [cut_eq (by simp),Option.bind_some],?_,by rfl,?_⟩
  ·refine ⟨by omega,by simp;omega,?_,by simp [mx];split <;> omega,by simp,fun _ => by simp;omega⟩
   (simp <;> omega)
  ·refine { H with ot:=?_,bt:=?_,tc:=?_,hs:=?_ }
   ·exact (cutS_ok ok_nil).1
   ·intro x hx;exact absurd ((cutS_ok ok_nil).2 x |>.mp hx).1 mem_nil
   ·intro x hx;exact absurd ((cutS_ok ok_nil).2 x |>.mp hx).1 mem_nil
   ·intro s hs2
    rcases List.mem_append.mp hs2 with q | q
    ·exact H.hs s q
    ·rw [List.mem_singleton.mp q]
     exact ⟨by show 0 ≤ b + (d.length : Int);omega,by show b + (d.length : Int) + (([] : List Int).length : Int) ≤ _;simp;omega⟩
 ·rw [if_neg e] at h ⊢
  cases t with
  | nil => exact absurd rfl e
  | cons s t =>
   have hr : rd_T37 (s :: t) 0 = s:=sp_rd (l:=s :: t) (j:=0) (by simp)
   rw [hr] at h ⊢
   have h2 : ¬ (size ≤ 0 ∨ mn s.f1 lim ≤ s.f0):=by simpa using h
   have q0:=(ok_cons.mp H.ot).1
   have q1:=H.bt s.f0 (ok_mem H.ot (List.mem_cons_self ..))
   have q2:=H.bt (s.f1 - 1) ⟨s,List.mem_cons_self ..,by omega,by omega⟩
   have w1 : IntKind.u64.wrap size = size:=wid (by omega) hs
   have w2 : IntKind.u64.wrap (s.f0 + size) = s.f0 + size:=by rw [IntKind.wrap_u64];omega
   rw [w1,w2]
   obtain ⟨z,hz⟩ : ∃ z,mn (mn s.f1 lim) (s.f0 + size) = z:=⟨_,rfl⟩
   have hz2 : s.f0 < z ∧ z ≤ s.f1 ∧ z ≤ lim ∧ z ≤ s.f0 + size:=by
    unfold mn at hz h2
    split at hz <;> split at hz <;> split at h2 <;> omega
   obtain ⟨e1,e2⟩:=inv_cut hn H (a:=s.f0) (z:=z) q1.1 (by omega) (by omega)
   rw [hz,if_pos ⟨q1.1,by omega,by omega⟩,cut_eq (by omega),Option.bind_some]
   obtain ⟨oc,mc⟩:=cutS_ok (a:=s.f0) (b:=z) H.ot
   refine ⟨_,_,_,_,_,rfl,?_,?_,?_⟩
   ·rw [e1]
    refine ⟨by omega,by omega,?_,?_,fun _ => by omega,fun q => ?_⟩
    ·rw [e2,show s.f0 + (z - s.f0) = z by omega]
    ·rw [e2];unfold mx;split <;> omega
    ·simp only [Bool.and_eq_true,beq_iff_eq] at q
     omega
   ·unfold text_free
    rw [List.all_eq_true]
    intro j hj
    rw [List.mem_range,e1] at hj
    rw [rhas_eq (by omega) _ (by omega)]
    have : ¬ Mem (s.f0 + (j : Int)) ca:=by
     intro q
     have h3 : Mem (s.f0 + (j : Int)) (s :: t):=⟨s,List.mem_cons_self ..,by omega,by omega⟩
     rcases (H.ba _).mp q with r | r
     ·exact H.tc _ h3 r
     ·omega
    rw [decide_eq_false this]
    rfl
   ·refine { H with ot:=oc,bt:=fun x hx => H.bt x ((mc x).mp hx).1,tc:=fun x hx => H.tc x ((mc x).mp hx).1,hs:=?_ }
    intro u hu
    rcases List.mem_append.mp hu with q | q
    ·exact H.hs u q
    ·rw [List.mem_singleton.mp q]
     refine ⟨by show 0 ≤ s.f0;omega,?_⟩
     show s.f0 + (((d.take (z - b).toNat).drop (s.f0 - b).toNat).length : Int) ≤ _
     rw [e1];omega
/-- What was lost. -/
theorem inv_lost {off : Int} {m : List Int} {fi ft fc cf : Bool} {k : Nat} (hk : 1000 ≤ k) (h0 : 0 ≤ off) (h1 : off + (m.length : Int) ≤ (p.length : Int)) :
  ∃ t2 f2,supply_Lost.f k b d t c fi ft fc off m cf = some (b,d,t2,c,fi,f2,fc) ∧ Inv p b d t2 c se ca:=by
 have hl:=inv_dl hn H
 have ht:=inv_t hn H
 have hc:=inv_c hn H
 have hb0:=H.b0
 have hb1:=H.b1
 obtain ⟨p1,p2,hp,hx⟩:=inv_places hn H h0 h1
 obtain ⟨o1,m1⟩:=addS_ok (a:=p1) (b:=p2) ok_nil
 have in1 : ∀ x,Mem x (addS [] p1 p2) → b ≤ x ∧ x < (p.length : Int):=by
  intro x q
  rcases (m1 x).mp q with r | r
  ·exact absurd r mem_nil
  ·have:=(hx x).mp r;omega
 obtain ⟨y,hy,oy,my⟩:=cuts_ok (l:=c) o1 in1 hb0 (by omega)
 have in2 : ∀ x,Mem x y → b ≤ x ∧ x < (p.length : Int):=fun x q => in1 x ((my x).mp q).1
 obtain ⟨t2,h2,o2,m2⟩:=adds_ok hk (l:=y) H.ot H.bt in2 hb0 (by omega)
 have hly:=ok_short oy in2 hb0 (by omega)
 refine ⟨t2,(if ft then true else (cf && fi && !fc)),?_,{ H with ot:=o2,bt:=?_,tc:=?_ }⟩
 ·unfold supply_Lost.f
  rw [if_pos ⟨by omega,by omega,by omega⟩,hp]
  show ((span_Add.f k [] p1 p2).bind _) = _
  rw [add_eq (by simp) (by simp;omega),Option.bind_some,hy,Option.bind_some,if_pos (by omega),h2,Option.bind_some]
 ·intro x q
  exact ((m2 x).mp q).elim (H.bt x) (in2 x)
 ·intro x q
  exact ((m2 x).mp q).elim (H.tc x) (fun r => ((my x).mp r).2)
/-- What came. -/
theorem inv_came {off : Int} {m : List Int} {fi ft fc cf : Bool} {k : Nat} (hk : 1000 ≤ k) (h0 : 0 ≤ off) (h1 : off + (m.length : Int) ≤ (p.length : Int)) :
  ∃ b2 d2 t2 c2 f2 f3 ca2,supply_Came.f k b d t c fi ft fc off m cf = some (b2,d2,t2,c2,fi,f2,f3) ∧ wigwagref07_Add.f k ca off (off + (m.length : Int)) = some ca2 ∧ Inv p b2 d2 t2 c2 se ca2:=by
 have hl:=inv_dl hn H
 have ht:=inv_t hn H
 have hc:=inv_c hn H
 have hca:=inv_ca hn H
 have hb0:=H.b0
 have hb1:=H.b1
 obtain ⟨p1,p2,hp,hx⟩:=inv_places hn H h0 h1
 obtain ⟨o1,m1⟩:=addS_ok (a:=p1) (b:=p2) H.oc
 obtain ⟨o2,m2⟩:=cutS_ok (a:=p1) (b:=p2) H.ot
 obtain ⟨o3,m3⟩:=addS_ok (a:=off) (b:=off + (m.length : Int)) H.oa
 have in1 : ∀ x,Mem x (addS c p1 p2) → b ≤ x ∧ x < (p.length : Int):=by
  intro x q
  rcases (m1 x).mp q with r | r
  ·exact H.bc x r
  ·have:=(hx x).mp r;omega
 have hl1:=ok_short o1 in1 hb0 (by omega)
 have key : ∀ x,Mem x (addS ca off (off + (m.length : Int))) ↔ Mem x (addS c p1 p2) ∨ (0 ≤ x ∧ x < b):=by
  intro x
  rw [m3 x,m1 x,H.ba x,hx x]
  constructor
  ·intro q
   rcases q with (q | q) | q
   ·exact .inl (.inl q)
   ·exact .inr q
   ·by_cases r : b ≤ x
    ·exact .inl (.inr ⟨q.1,q.2,r⟩)
    ·exact .inr ⟨by omega,by omega⟩
  ·intro q
   rcases q with (q | q) | q
   ·exact .inl (.inl q)
   ·exact .inr ⟨q.1,q.2.1⟩
   ·exact .inl (.inr q)
 have hcut : ∀ x,Mem x (cutS t p1 p2) → Mem x t ∧ ¬ Mem x (addS c p1 p2):=by
  intro x q
  obtain ⟨r1,r2⟩:=(m2 x).mp q
  exact ⟨r1,fun r => ((m1 x).mp r).elim (H.tc x r1) r2⟩
 have hAdd : wigwagref07_Add.f k ca off (off + (m.length : Int)) = some (addS ca off (off + (m.length : Int))):=rfadd_eq (by omega) H.oa _ _ (by omega)
 have hgo : ∀ r,supply_Came_1.f b d (addS c p1 p2) = some r → supply_Came.f k b d t c fi ft fc off m cf = some (r.1,r.2.1,cutS t p1 p2,r.2.2,fi,(if cf && fi then false else ft),(if cf && fi then true else fc)):=by
  intro r hr
  unfold supply_Came.f
  rw [if_pos ⟨by omega,by omega,by omega,by omega⟩,hp]
  show ((span_Add.f k c p1 p2).bind _) = _
  rw [add_eq (by omega) (by omega),Option.bind_some]
  show ((span_Cut.f t p1 p2).bind _) = _
  rw [cut_eq (by omega),Option.bind_some,if_pos (by omega),hr,Option.bind_some]
 generalize addS c p1 p2 = c1 at *
 unfold supply_Came_1.f at hgo
 by_cases q : 0 < c1.length ∧ (rd_T37 c1 0).f0 = b
 ·rw [if_pos q] at hgo
  cases c1 with
  | nil => exact absurd q.1 (by simp)
  | cons s u =>
   have hr : rd_T37 (s :: u) 0 = s:=sp_rd (l:=s :: u) (j:=0) (by simp)
   rw [hr] at hgo q
   obtain ⟨u1,u2,u3⟩:=ok_cons.mp o1
   have q2:=in1 (s.f1 - 1) ⟨s,List.mem_cons_self ..,by omega,by omega⟩
   have hsb : s.f0 = b:=q.2
   have gt : ∀ x,Mem x u → s.f1 < x:=by intro x ⟨v,hv,r⟩;have:=u2 v hv;omega
   refine ⟨_,_,_,_,_,_,_,hgo _ (if_pos ⟨by omega,by omega⟩),hAdd,?_⟩
   refine { b0:=by show 0 ≤ s.f1;omega,b1:=by show s.f1 ≤ _;omega,hd:=?_,ot:=o2,oc:=u3,oa:=o3,bt:=?_,bc:=?_,ba:=?_,tc:=?_,hs:=H.hs }
   ·show d.drop (s.f1 - b).toNat = p.drop s.f1.toNat
    rw [H.hd,List.drop_drop]
    congr 1
    omega
   ·intro x hx2
    obtain ⟨r1,r2⟩:=hcut x hx2
    have r3:=H.bt x r1
    have r4 : ¬ (s.f0 ≤ x ∧ x < s.f1):=fun r => r2 (mem_cons.mpr (.inl r))
    show s.f1 ≤ x ∧ _
    omega
   ·intro x hx2
    have r1:=gt x hx2
    have r2:=in1 x (mem_cons.mpr (.inr hx2))
    show s.f1 ≤ x ∧ _
    omega
   ·intro x
    show _ ↔ Mem x u ∨ (0 ≤ x ∧ x < s.f1)
    rw [key x,mem_cons]
    constructor
    ·intro r
     rcases r with (r | r) | r
     ·exact .inr (by omega)
     ·exact .inl r
     ·exact .inr (by omega)
    ·intro r
     rcases r with r | r
     ·exact .inl (.inr r)
     ·by_cases r2 : x < b
      ·exact .inr (by omega)
      ·exact .inl (.inl (by omega))
   ·intro x hx2 r
    exact (hcut x hx2).2 (mem_cons.mpr (.inr r))
 ·rw [if_neg q] at hgo
  refine ⟨_,_,_,_,_,_,_,hgo _ rfl,hAdd,?_⟩
  exact { H with ot:=o2,oc:=o1,oa:=o3,bt:=fun x hx2 => H.bt x (hcut x hx2).1,bc:=in1,ba:=key,tc:=fun x hx2 => (hcut x hx2).2 }
end
theorem go_some {k : Nat} (hk : 1000 ≤ k) {p : List Int} (hn : p.length ≤ 300) {sc : List S48} (hsc : ∀ x ∈ sc,(Lit.int .i64 x.f2).wf = true) : ∀ (n i : Nat) {b : Int} {d : List Int} {t c : List Sp} {fi ft fc : Bool} {se : List S32} {ca : List Sp},
  Inv p b d t c se ca → se.length ≤ i → text_go k p sc n i b d t c fi ft fc se ca = some ()
 | 0,_,_,_,_,_,_,_,_,_,_,_,_ => rfl
 | n + 1,i,b,d,t,c,fi,ft,fc,se,ca,H,hi => by
  have hl:=inv_dl hn H
  have ht:=inv_t hn H
  have hc:=inv_c hn H
  have hca:=inv_ca hn H
  have hb0:=H.b0
  have hb1:=H.b1
  rw [text_go]
  by_cases c1 : (i : Int) < (sc.length : Int)
  ·rw [if_pos c1,if_pos ⟨by omega,by omega,by omega,by omega,by omega,by omega,by omega⟩]
   have hget : rd_T48 sc (i : Int) = sc[i]'(by omega):=by
    unfold rd_T48
    rw [Int.toNat_natCast,List.getD_eq_getElem?_getD,List.getElem?_eq_getElem (by omega)]
    rfl
   have hsz : (rd_T48 sc (i : Int)).f2 ≤ 9223372036854775807:=by
    have:=hsc _ (List.getElem_mem (show i < sc.length by omega))
    rw [hget]
    simp [Lit.wf,IntKind.min,IntKind.max,IntKind.signed,IntKind.bits] at this
    omega
   generalize rd_T48 sc (i : Int) = cl at *
   by_cases c3 : cl.f0 = 3
   ·rw [if_pos c3]
    by_cases cn : text_none cl.f2 cl.f3 t ft = true
    ·rw [if_pos cn]
     exact go_some hk hn hsc n (i + 1) H (by omega)
    ·rw [if_neg cn]
     obtain ⟨off,tz,t2,m,cf,h1,h2,h3,h4⟩:=inv_tell hn H hk hsz cn
     rw [h1,Option.bind_some]
     show (if text_ok p cl.f2 cl.f3 off m cf then if text_free k ca off m.length = true then _ else none else none) = _
     rw [if_pos h2,if_pos h3]
     exact go_some hk hn hsc n (i + 1) h4 (by simp;omega)
   ·rw [if_neg c3]
    by_cases c4 : cl.f4 < 0 ∨ (se.length : Int) ≤ cl.f4
    ·rw [if_pos c4]
     exact go_some hk hn hsc n (i + 1) H (by omega)
    ·rw [if_neg c4]
     have hse:=H.hs (rd_T32 se cl.f4) (by
      unfold rd_T32
      rw [List.getD_eq_getElem?_getD,List.getElem?_eq_getElem (show cl.f4.toNat < se.length by omega)]
      exact List.getElem_mem _)
     generalize rd_T32 se cl.f4 = s at *
     by_cases c5 : cl.f0 = 4
     ·rw [if_pos c5]
      obtain ⟨t2,f2,h1,h2⟩:=inv_lost hn H (m:=s.f1) (fi:=fi) (ft:=ft) (fc:=fc) (cf:=s.f2) hk hse.1 hse.2
      rw [h1,Option.bind_some]
      exact go_some hk hn hsc n (i + 1) h2 (by omega)
     ·rw [if_neg c5]
      by_cases c6 : cl.f0 = 5
      ·rw [if_pos c6]
       obtain ⟨b2,d2,t2,c2,f2,f3,ca2,h1,h2,h3⟩:=inv_came hn H (m:=s.f1) (fi:=fi) (ft:=ft) (fc:=fc) (cf:=s.f2) hk hse.1 hse.2
       rw [h1,Option.bind_some,if_pos ⟨hse.1,by omega⟩,h2,Option.bind_some]
       exact go_some hk hn hsc n (i + 1) h3 (by omega)
      ·rw [if_neg c6]
       exact go_some hk hn hsc n (i + 1) H (by omega)
  ·rw [if_neg c1]
theorem SupplyText : wigwaglaw18_SupplyText.Pure:=by
 intro l0 l1 _ _ _ hw
 refine ⟨1000,?_⟩
 unfold wigwaglaw18_SupplyText.f
 by_cases c : (l0.length : Int) > 300
 ·rw [if_pos c]
 rw [if_neg c,add_eq (by simp) (by simp),Option.bind_some]
 obtain ⟨o1,m1⟩:=addS_ok (a:=0) (b:=(l0.length : Int)) ok_nil
 have H : Inv l0 0 l0 (addS [] 0 (l0.length : Int)) [] [] []:={
  b0:=by omega,b1:=by omega,hd:=rfl,ot:=o1,oc:=ok_nil,oa:=ok_nil
  bt:=fun x hx => ((m1 x).mp hx).elim (fun q => absurd q mem_nil) id
  bc:=fun x hx => absurd hx mem_nil
  ba:=fun x => ⟨.inl,fun q => q.elim id (fun q => by omega)⟩
  tc:=fun x _ => mem_nil
  hs:=fun s hs => by cases hs }
 have hl:=addS_len [] 0 (l0.length : Int)
 rw [if_pos (by simp only [List.length_nil] at hl;omega),go_some (k:=1000) (by decide) (by omega) (fun x hx => (hw x hx).2.2.1) 60 0 H (by simp)]
 rfl
end Go.Proofs.Ytadhkamocbhbmaa.Pure
