/- What is given stays as it was: all that is made of a text is made. -/
import Derived.Test.YtadhkamocbhbmaaStmSupplyOwn
import Derived.Test.YtadhkamocbhbmaaPx11
import Derived.Test.YtadhkamocbhbmaaPx12
import Derived.Test.YtadhkamocbhbmaaPx13
import Derived.Test.YtadhkamocbhbmaaPx15
import Derived.Test.YtadhkamocbhbmaaPx18
import Derived.Test.YtadhkamocbhbmaaPx19
import Derived.Test.YtadhkamocbhbmaaPx2
import Derived.Test.YtadhkamocbhbmaaPx20
import Derived.Test.YtadhkamocbhbmaaPx21
import Derived.Test.YtadhkamocbhbmaaPx4
import Derived.Test.YtadhkamocbhbmaaPx6
import Derived.Test.YtadhkamocbhbmaaPx7
namespace Go.Proofs.Ytadhkamocbhbmaa.Pure
open Go.RowKit Go.Proofs.Ytadhkamocbhbmaa.P Go.Proofs.YtadhkamocbhbmaaW.PrintWords Go.Proofs.YtadhkamocbhbmaaW.PrintLast Go.Proofs.YtadhkamocbhbmaaW.PrintMore
set_option linter.unusedVariables false
abbrev Sp := S37
def addL : List Sp → Int → Int → List Sp
  | [], a, b => [⟨a, b⟩]
  | x :: t, a, b => if x.f1 < a then x :: addL t a b else if b < x.f0 then ⟨a, b⟩ :: x :: t else addL t (if x.f0 < a then x.f0 else a) (if b < x.f1 then x.f1 else b)
def cut1 (x : Sp) (a b : Int) : List Sp := (if x.f0 < (if a < x.f1 then a else x.f1) then [⟨x.f0, if a < x.f1 then a else x.f1⟩] else []) ++ (if (if x.f0 < b then b else x.f0) < x.f1 then [⟨if x.f0 < b then b else x.f0, x.f1⟩] else [])
def cutL (l : List Sp) (a b : Int) : List Sp := l.flatMap (fun x => cut1 x a b)
theorem sp_rd {l : List Sp} {j : Nat} (h : j < l.length) : rd_T37 l (j : Int) = l[j] := by
  unfold rd_T37
  rw [Int.toNat_natCast, List.getD_eq_getElem?_getD, List.getElem?_eq_getElem h]
  rfl
theorem sp_up {j n : Nat} (h : j < n) (hn : n < 1000000) : wrap64 ((j : Int) + 1) = ((j + 1 : Nat) : Int) := by unfold wrap64; omega
theorem clone_eq {l : List Sp} (h : l.length < 1000000) : api_Span.f l = some l := by
  unfold api_Span.f
  rw [Option.bind_some, if_pos (by simp; omega), List.nil_append]
theorem add_loop {l : List Sp} (hn : l.length < 1000000) (d : Nat) : ∀ (j k : Nat) (out : List Sp) (a b : Int), j + d = l.length → d + 1 ≤ k → out.length ≤ j → span_Add.l0 k l out (j : Int) a b = some (out ++ addL (l.drop j) a b) := by
  induction d with
  | zero =>
    intro j k out a b hj hk ho
    obtain ⟨k, rfl⟩ : ∃ m, k = m + 1 := ⟨k - 1, by omega⟩
    have e : l.drop j = [] := List.drop_eq_nil_of_le (by omega)
    rw [span_Add.l0, if_neg (by omega), if_pos (by omega), Option.bind_some, if_pos (by omega), if_pos (by omega), Option.bind_some, Int.toNat_natCast, e, if_pos (by simp; omega)]
    rw [addL, List.append_nil]
  | succ d ih =>
    intro j k out a b hj hk ho
    obtain ⟨k, rfl⟩ : ∃ m, k = m + 1 := ⟨k - 1, by omega⟩
    have hjl : j < l.length := by omega
    have e := List.drop_eq_getElem_cons hjl
    rw [span_Add.l0, if_pos (by omega), if_pos (by omega), sp_rd hjl, sp_up hjl hn]
    by_cases c1 : (l[j]).f1 < a
    · rw [if_pos c1, if_pos (by omega), ih (j + 1) k _ a b (by omega) (by omega) (by simp; omega), e, addL, if_pos c1, List.append_assoc]
      rfl
    · rw [if_neg c1]
      by_cases c2 : b < (l[j]).f0
      · rw [if_pos c2, if_pos (by omega), Option.bind_some, if_pos (by omega), Option.bind_some, Int.toNat_natCast, if_pos (by simp; omega), e, addL, if_neg c1, if_pos c2, List.append_assoc]
        rfl
      · rw [if_neg c2, ih (j + 1) k out _ _ (by omega) (by omega) (by omega), e, addL, if_neg c1, if_neg c2]
        rfl
def addS (l : List Sp) (a b : Int) : List Sp := if b ≤ a then l else addL l a b
def cutS (l : List Sp) (a b : Int) : List Sp := if b ≤ a then l else cutL l a b
theorem add_eq {l : List Sp} (hn : l.length < 1000000) {a b : Int} {k : Nat} (hk : l.length + 1 ≤ k) : span_Add.f k l a b = some (addS l a b) := by
  unfold span_Add.f addS
  by_cases c : b ≤ a
  · rw [if_pos c, if_pos c, clone_eq hn]; rfl
  · rw [if_neg c, if_neg c]
    exact add_loop hn l.length 0 k [] a b (by omega) (by omega) (by simp)
theorem cut_fold (a b : Int) : ∀ (l o : List Sp), l.foldl (fun out x => span_Cut_1.add (span_Cut_1.add out x.f0 (mn x.f1 a)) (mx x.f0 b) x.f1) o = o ++ cutL l a b
  | [], o => by simp [cutL]
  | x :: l, o => by
    rw [List.foldl_cons, cut_fold a b l]
    have e : cutL (x :: l) a b = cut1 x a b ++ cutL l a b := by simp [cutL]
    rw [e, ← List.append_assoc]
    congr 1
    unfold span_Cut_1.add cut1 mn mx
    rw [List.append_assoc]
theorem cut_eq {l : List Sp} (hn : l.length < 1000000) {a b : Int} : span_Cut.f l a b = some (cutS l a b) := by
  unfold span_Cut.f cutS
  by_cases c : b ≤ a
  · rw [if_pos c, if_pos c, clone_eq hn]
  · rw [if_neg c, if_neg c, if_pos (by omega)]
    unfold span_Cut.fold
    rw [cut_fold, List.nil_append]
theorem cut1_len (x : Sp) (a b : Int) : (cut1 x a b).length ≤ 2 := by
  have h : ∀ (c : Prop) [Decidable c] (y : Sp), (if c then [y] else []).length ≤ 1 := by intro c _ y; split <;> simp
  unfold cut1
  rw [List.length_append]
  have h1 := h (x.f0 < (if a < x.f1 then a else x.f1)) ⟨x.f0, if a < x.f1 then a else x.f1⟩
  have h2 := h ((if x.f0 < b then b else x.f0) < x.f1) ⟨if x.f0 < b then b else x.f0, x.f1⟩
  omega
theorem cutL_len : ∀ (l : List Sp) (a b : Int), (cutL l a b).length ≤ 2 * l.length
  | [], a, b => by simp [cutL]
  | x :: t, a, b => by
    have e : cutL (x :: t) a b = cut1 x a b ++ cutL t a b := by simp [cutL]
    have h1 := cut1_len x a b
    have h2 := cutL_len t a b
    rw [e, List.length_append, List.length_cons]
    omega
theorem cutS_len (l : List Sp) (a b : Int) : (cutS l a b).length ≤ 2 * l.length := by
  unfold cutS
  split
  · omega
  · exact cutL_len l a b
theorem same_loop {a : List Sp} (hn : a.length < 1000000) (d : Nat) : ∀ (j k : Nat), j + d = a.length → d + 1 ≤ k → wigwagref07_Same.l0 k a a (j : Int) = some true := by
  induction d with
  | zero =>
    intro j k hj hk
    obtain ⟨k, rfl⟩ : ∃ m, k = m + 1 := ⟨k - 1, by omega⟩
    rw [wigwagref07_Same.l0, if_neg (by omega)]
  | succ d ih =>
    intro j k hj hk
    obtain ⟨k, rfl⟩ : ∃ m, k = m + 1 := ⟨k - 1, by omega⟩
    have ha : j < a.length := by omega
    rw [wigwagref07_Same.l0, if_pos (by omega), if_pos (by omega), if_pos (by omega), if_neg (by simp), sp_up ha hn]
    exact ih (j + 1) k (by omega) (by omega)
theorem same_self {a : List Sp} (hn : a.length < 100) {k : Nat} (hk : 200 ≤ k) : wigwagref07_Same.f k a a = some true := by
  unfold wigwagref07_Same.f
  rw [if_pos rfl]
  exact same_loop (by omega) a.length 0 k (by omega) (by omega)
theorem same18 {b : Int} {d : List Int} {t c : List Sp} {x y z : Bool} {k : Nat} (ht : t.length < 100) (hc : c.length < 100) (hk : 200 ≤ k) : wigwagref18_Same.f k b d t c x y z b d t c x y z = some true := by
  unfold wigwagref18_Same.f
  rw [same_self ht hk, same_self hc hk, Option.bind_some, Option.bind_some, if_pos rfl, if_pos rfl, if_pos rfl, if_pos rfl, if_pos (by simp), if_pos (by simp)]
  simp
theorem add_nil {a b : Int} {k : Nat} (hk : 2 ≤ k) : span_Add.f k [] a b = some (addS [] a b) := add_eq (by simp) (by simp; omega)
theorem addS_nil {a b : Int} (h : a < b) : addS [] a b = [⟨a, b⟩] := by unfold addS; rw [if_neg (by omega)]; rfl
theorem addS_no {a b : Int} (h : ¬ a < b) : addS [] a b = [] := by unfold addS; rw [if_pos (by omega)]
theorem wid {x : Int} (h0 : 0 ≤ x) (h1 : x ≤ 9223372036854775807) : IntKind.u64.wrap x = x := by rw [IntKind.wrap_u64]; omega
theorem write_some {d l : List Int} {t : List Sp} {k : Nat} (hk : 300 ≤ k) (ht : t.length < 100) (hd : d.length + l.length ≤ 1000) : supply_Write.f k 0 d t [] false false false l = some (0, d ++ l, addS t (d.length : Int) ((d.length : Int) + (l.length : Int)), [], false, false, false, 0) := by
  unfold supply_Write.f
  rw [if_pos ⟨by omega, by omega, by simp, by decide, rfl, by omega⟩, Int.zero_add, add_eq (by omega) (by omega), Option.bind_some]
/-- A chunk of a text that is twice there: what came, and what was lost, is told. -/
theorem rest_some {D m : List Int} {T : List Sp} {off : Int} {cf : Bool} {k : Nat} (hk : 300 ≤ k) (hD : 0 < D.length ∧ D.length ≤ 1000) (hT : T.length < 30) (hm : m.length ≤ 1000) (h0 : off = 0) :
    (∃ v, supply_Came.f k 0 D T [] false false false off m cf = some v ∧ v.2.2.1.length < 100 ∧ v.2.2.2.1.length < 100) ∧ ∃ x, supply_Lost.f k 0 D T [] false false false off m cf = some x := by
  subst h0
  obtain ⟨e, he⟩ : ∃ e : Int, IntKind.u64.wrap (0 + IntKind.u64.wrap (D.length : Int)) = e := ⟨_, rfl⟩
  have hee : e = (D.length : Int) := by
    have hw : IntKind.u64.wrap (D.length : Int) = (D.length : Int) := wid (by omega) (by omega)
    rw [← he, hw, Int.zero_add, hw]
  obtain ⟨p, hp⟩ : ∃ p, supply_places.f 0 0 e m.length = p := ⟨_, rfl⟩
  have hpp : p.1 = 0 ∧ p.2 ≤ (D.length : Int) := by
    rw [← hp]
    unfold supply_places.f
    rw [if_neg (by omega)]
    refine ⟨by unfold mx; split <;> rfl, ?_⟩
    unfold mn
    split <;> omega
  have hl2 : (addS ([] : List Sp) p.1 p.2).length ≤ 1 := by
    by_cases c : p.1 < p.2
    · rw [addS_nil c]; simp
    · rw [addS_no c]; simp
  constructor
  · unfold supply_Came.f
    rw [if_pos ⟨by omega, by omega, by simp, by decide⟩, he, hp, add_nil (by omega), Option.bind_some, cut_eq (by omega), Option.bind_some, if_pos (by omega)]
    have hc := cutS_len T p.1 p.2
    by_cases c : p.1 < p.2
    · rw [addS_nil c]
      have hr : rd_T37 [(⟨p.1, p.2⟩ : Sp)] 0 = ⟨p.1, p.2⟩ := sp_rd (l := [(⟨p.1, p.2⟩ : Sp)]) (j := 0) (by simp)
      unfold supply_Came_1.f
      rw [hr, if_pos ⟨by simp, hpp.1⟩, if_pos ⟨by show (0 : Int) ≤ p.2; omega, by show p.2 - 0 ≤ (D.length : Int); omega⟩, Option.bind_some]
      exact ⟨_, rfl, by show (cutS T p.1 p.2).length < 100; omega, by simp⟩
    · rw [addS_no c]
      unfold supply_Came_1.f
      rw [if_neg (by simp), Option.bind_some]
      exact ⟨_, rfl, by show (cutS T p.1 p.2).length < 100; omega, by simp⟩
  · unfold supply_Lost.f
    rw [if_pos ⟨by omega, by omega, by simp⟩, he, hp, add_nil (by omega), Option.bind_some]
    unfold supply_cuts
    rw [Option.bind_some, if_pos (by omega)]
    by_cases c : p.1 < p.2
    · rw [addS_nil c]
      unfold supply_adds
      rw [add_eq (by omega) (by omega), Option.bind_some]
      unfold supply_adds
      exact ⟨_, rfl⟩
    · rw [addS_no c]
      unfold supply_adds
      exact ⟨_, rfl⟩
theorem SupplyOwn : wigwaglaw18_SupplyOwn.Pure := by
  intro l0 a1 _ _ h1
  refine ⟨1000, ?_⟩
  unfold wigwaglaw18_SupplyOwn.f
  by_cases c : (l0.length : Int) > 300
  · rw [if_pos c]
  rw [if_neg c]
  by_cases c1 : a1 < 1
  · rw [if_pos c1]
  rw [if_neg c1, if_pos (by omega)]
  have hb : a1 ≤ 9223372036854775807 := by
    simp [Lit.wf, IntKind.min, IntKind.max, IntKind.signed, IntKind.bits] at h1
    omega
  by_cases c2 : l0.length = 0
  · have e : l0 = [] := List.eq_nil_of_length_eq_zero c2
    subst e
    have w0 := write_some (d := []) (l := []) (t := []) (k := 1000) (by decide) (by simp) (by simp)
    rw [List.nil_append, addS_no (by simp)] at w0
    have u0 : supply_Next_own.f 0 [] [] [] false false false a1 1048576 = some (0, [], [], [], false, false, false, 0, [], false, false) := by
      unfold supply_Next_own.f
      rw [if_pos ⟨by simp, by simp, by simp, by decide, by simp⟩, if_pos rfl, if_pos (show ([] : List Sp).length = 0 from rfl), if_pos ⟨rfl, rfl, rfl⟩]
    have v0 : supply_Came.f 1000 0 [] [] [] false false false 0 [] false = some (0, [], [], [], false, false, false) := by kernel_rfl
    have x0 : supply_Lost.f 1000 0 [] [] [] false false false 0 [] false = some (0, [], [], [], false, false, false) := by kernel_rfl
    have s0 := same18 (b := 0) (d := []) (t := []) (c := []) (x := false) (y := false) (z := false) (k := 1000) (by simp) (by simp) (by decide)
    rw [w0, Option.bind_some]
    show ((supply_Write.f 1000 0 [] [] [] false false false []).bind _) = _
    rw [w0, Option.bind_some]
    show ((supply_Next_own.f 0 [] [] [] false false false a1 1048576).bind _) = _
    rw [u0, Option.bind_some]
    show ((supply_Came.f 1000 0 [] [] [] false false false 0 [] false).bind _) = _
    rw [v0, Option.bind_some]
    show ((supply_Lost.f 1000 0 [] [] [] false false false 0 [] false).bind _) = _
    rw [x0, Option.bind_some]
    show ((wigwagref18_Same.f 1000 0 [] [] [] false false false 0 [] [] [] false false false).bind _) = _
    rw [s0]
    rfl
  obtain ⟨n, hn⟩ : ∃ n : Int, n = (l0.length : Int) := ⟨_, rfl⟩
  have w1 := write_some (d := []) (l := l0) (t := []) (k := 1000) (by decide) (by simp) (by simp; omega)
  rw [List.nil_append, show (([] : List Int).length : Int) = 0 from rfl, Int.zero_add, addS_nil (by omega)] at w1
  rw [w1, Option.bind_some]
  have w2 := write_some (d := l0) (l := l0) (t := [⟨0, (l0.length : Int)⟩]) (k := 1000) (by decide) (by simp) (by omega)
  have ha : addS [(⟨0, (l0.length : Int)⟩ : Sp)] (l0.length : Int) ((l0.length : Int) + (l0.length : Int)) = [⟨0, n + n⟩] := by
    unfold addS
    rw [if_neg (by omega)]
    simp only [addL]
    rw [if_neg (by omega), if_neg (by omega), if_pos (by omega), if_neg (by omega), hn]
  rw [ha] at w2
  show ((supply_Write.f 1000 0 l0 [⟨0, (l0.length : Int)⟩] [] false false false l0).bind _) = _
  rw [w2, Option.bind_some]
  obtain ⟨D, hD⟩ : ∃ D, D = l0 ++ l0 := ⟨_, rfl⟩
  have hDl : (D.length : Int) = n + n := by rw [hD, List.length_append]; omega
  obtain ⟨tz, htz⟩ : ∃ tz : Int, tz = mn (mn (n + n) 1048576) (IntKind.u64.wrap (0 + IntKind.u64.wrap a1)) := ⟨_, rfl⟩
  have ht : 0 < tz ∧ tz ≤ n + n := by
    rw [htz, Int.zero_add, wid (by omega) hb, wid (by omega) hb]
    unfold mn
    (repeat' split) <;> omega
  obtain ⟨u, hu, hu1⟩ : ∃ u : Int × List Int × List Sp × List Sp × Bool × Bool × Bool × Int × List Int × Bool × Bool, supply_Next_own.f 0 D [⟨0, n + n⟩] [] false false false a1 1048576 = some u ∧ u = (0, D, cutS [⟨0, n + n⟩] 0 tz, [], false, false, false, 0, (D.take (tz - 0).toNat).drop (0 - 0 : Int).toNat, false, true) := by
    refine ⟨_, ?_, rfl⟩
    have hr : rd_T37 [(⟨0, n + n⟩ : Sp)] 0 = ⟨0, n + n⟩ := sp_rd (l := [(⟨0, n + n⟩ : Sp)]) (j := 0) (by simp)
    unfold supply_Next_own.f
    rw [if_pos ⟨by omega, by simp, by simp, by decide, by omega⟩, if_neg (by simp), hr, if_neg (by show ¬ (a1 ≤ 0 ∨ mn (n + n) 1048576 ≤ 0); unfold mn; split <;> omega)]
    show supply_Next.part 0 D [⟨0, n + n⟩] [] false false false 0 (mn (mn (n + n) 1048576) (IntKind.u64.wrap (0 + IntKind.u64.wrap a1))) = _
    rw [← htz]
    unfold supply_Next.part
    rw [if_pos ⟨by decide, by omega, by omega⟩, cut_eq (by simp), Option.bind_some]
    rfl
  have hcl := cutS_len [(⟨0, n + n⟩ : Sp)] 0 tz
  have hc2 : (cutS [(⟨0, n + n⟩ : Sp)] 0 tz).length ≤ 2 := by simpa using hcl
  obtain ⟨⟨v, hv, hv1, hv2⟩, x, hx⟩ := rest_some (D := D) (m := (D.take (tz - 0).toNat).drop (0 - 0 : Int).toNat) (T := cutS [⟨0, n + n⟩] 0 tz) (off := 0) (cf := false) (k := 1000) (by decide) (by omega) (by omega) (by rw [List.length_drop, List.length_take]; omega) rfl
  show ((supply_Next_own.f 0 (l0 ++ l0) [⟨0, n + n⟩] [] false false false a1 1048576).bind _) = _
  rw [← hD, hu, Option.bind_some, hu1]
  show ((supply_Came.f 1000 0 D (cutS [⟨0, n + n⟩] 0 tz) [] false false false 0 ((D.take (tz - 0).toNat).drop (0 - 0 : Int).toNat) false).bind _) = _
  rw [hv, Option.bind_some]
  show ((supply_Lost.f 1000 0 D (cutS [⟨0, n + n⟩] 0 tz) [] false false false 0 ((D.take (tz - 0).toNat).drop (0 - 0 : Int).toNat) false).bind _) = _
  rw [hx, Option.bind_some]
  have s1 := same18 (b := 0) (d := l0) (t := [⟨0, (l0.length : Int)⟩]) (c := []) (x := false) (y := false) (z := false) (k := 1000) (by simp) (by simp) (by decide)
  have s2 := same18 (b := 0) (d := D) (t := cutS [⟨0, n + n⟩] 0 tz) (c := []) (x := false) (y := false) (z := false) (k := 1000) (by omega) (by simp) (by decide)
  have s3 := same18 (b := v.1) (d := v.2.1) (t := v.2.2.1) (c := v.2.2.2.1) (x := v.2.2.2.2.1) (y := v.2.2.2.2.2.1) (z := v.2.2.2.2.2.2) (k := 1000) hv1 hv2 (by decide)
  show ((wigwagref18_Same.f 1000 0 l0 [⟨0, (l0.length : Int)⟩] [] false false false 0 l0 [⟨0, (l0.length : Int)⟩] [] false false false).bind _) = _
  rw [s1, Option.bind_some]
  show ((wigwagref18_Same.f 1000 0 D (cutS [⟨0, n + n⟩] 0 tz) [] false false false 0 D (cutS [⟨0, n + n⟩] 0 tz) [] false false false).bind _) = _
  rw [s2, Option.bind_some, s3, Option.bind_some, if_pos ⟨rfl, rfl, rfl⟩]
end Go.Proofs.Ytadhkamocbhbmaa.Pure
