/- A stream whose chunks are lost, and come at last: all came, with the end. -/
import Derived.Test.YtadhkamocbhbmaaStmSupplyEnds
import Derived.Test.YtadhkamocbhbmaaPx13
import Derived.Test.YtadhkamocbhbmaaPx15
import Derived.Test.YtadhkamocbhbmaaPx18
import Derived.Test.YtadhkamocbhbmaaPx2
import Derived.Test.YtadhkamocbhbmaaPx4
import Derived.Test.YtadhkamocbhbmaaPx7
namespace Go.Proofs.Ytadhkamocbhbmaa.Pure
open Go.RowKit Go.Proofs.Ytadhkamocbhbmaa.P Go.Proofs.YtadhkamocbhbmaaW.PrintWords Go.Proofs.YtadhkamocbhbmaaW.PrintLast Go.Proofs.YtadhkamocbhbmaaW.PrintMore
set_option linter.unusedVariables false
abbrev Sp := S37
def addL : List Sp → Int → Int → List Sp
  | [], a, b => [⟨a, b⟩]
  | x :: t, a, b => if x.f1 < a then x :: addL t a b else if b < x.f0 then ⟨a, b⟩ :: x :: t else addL t (if x.f0 < a then x.f0 else a) (if b < x.f1 then x.f1 else b)
def cut1 (x : Sp) (a b : Int) : List Sp := (if x.f0 < (if a < x.f1 then a else x.f1) then [⟨x.f0, if a < x.f1 then a else x.f1⟩] else []) ++ (if (if x.f0 < b then b else x.f0) < x.f1 then [⟨if x.f0 < b then b else x.f0, x.f1⟩] else [])
def cutL (l : List Sp) (a b : Int) : List Sp := l.flatMap (fun x => cut1 x a b)
theorem sp_rd {l : List Sp} {j : Nat} (h : j < l.length) : rd_T37 l (j : Int) = l[j] := by
  unfold rd_T37
  rw [Int.toNat_natCast, List.getD_eq_getElem?_getD, List.getElem?_eq_getElem h]
  rfl
theorem sp_up {j n : Nat} (h : j < n) (hn : n < 1000000) : wrap64 ((j : Int) + 1) = ((j + 1 : Nat) : Int) := by unfold wrap64; omega
theorem clone_eq {l : List Sp} (h : l.length < 1000000) : api_Span.f l = some l := by
  unfold api_Span.f
  rw [Option.bind_some, if_pos (by simp; omega), List.nil_append]
theorem add_loop {l : List Sp} (hn : l.length < 1000000) (d : Nat) : ∀ (j k : Nat) (out : List Sp) (a b : Int), j + d = l.length → d + 1 ≤ k → out.length ≤ j → span_Add.l0 k l out (j : Int) a b = some (out ++ addL (l.drop j) a b) := by
  induction d with
  | zero =>
    intro j k out a b hj hk ho
    obtain ⟨k, rfl⟩ : ∃ m, k = m + 1 := ⟨k - 1, by omega⟩
    have e : l.drop j = [] := List.drop_eq_nil_of_le (by omega)
    rw [span_Add.l0, if_neg (by omega), if_pos (by omega), Option.bind_some, if_pos (by omega), if_pos (by omega), Option.bind_some, Int.toNat_natCast, e, if_pos (by simp; omega)]
    rw [addL, List.append_nil]
  | succ d ih =>
    intro j k out a b hj hk ho
    obtain ⟨k, rfl⟩ : ∃ m, k = m + 1 := ⟨k - 1, by omega⟩
    have hjl : j < l.length := by omega
    have e := List.drop_eq_getElem_cons hjl
    rw [span_Add.l0, if_pos (by omega), if_pos (by omega), sp_rd hjl, sp_up hjl hn]
    by_cases c1 : (l[j]).f1 < a
    · rw [if_pos c1, if_pos (by omega), ih (j + 1) k _ a b (by omega) (by omega) (by simp; omega), e, addL, if_pos c1, List.append_assoc]
      rfl
    · rw [if_neg c1]
      by_cases c2 : b < (l[j]).f0
      · rw [if_pos c2, if_pos (by omega), Option.bind_some, if_pos (by omega), Option.bind_some, Int.toNat_natCast, if_pos (by simp; omega), e, addL, if_neg c1, if_pos c2, List.append_assoc]
        rfl
      · rw [if_neg c2, ih (j + 1) k out _ _ (by omega) (by omega) (by omega), e, addL, if_neg c1, if_neg c2]
        rfl
def addS (l : List Sp) (a b : Int) : List Sp := if b ≤ a then l else addL l a b
def cutS (l : List Sp) (a b : Int) : List Sp := if b ≤ a then l else cutL l a b
theorem add_eq {l : List Sp} (hn : l.length < 1000000) {a b : Int} {k : Nat} (hk : l.length + 1 ≤ k) : span_Add.f k l a b = some (addS l a b) := by
  unfold span_Add.f addS
  by_cases c : b ≤ a
  · rw [if_pos c, if_pos c, clone_eq hn]; rfl
  · rw [if_neg c, if_neg c]
    exact add_loop hn l.length 0 k [] a b (by omega) (by omega) (by simp)
theorem cut_fold (a b : Int) : ∀ (l o : List Sp), l.foldl (fun out x => span_Cut_1.add (span_Cut_1.add out x.f0 (mn x.f1 a)) (mx x.f0 b) x.f1) o = o ++ cutL l a b
  | [], o => by simp [cutL]
  | x :: l, o => by
    rw [List.foldl_cons, cut_fold a b l]
    have e : cutL (x :: l) a b = cut1 x a b ++ cutL l a b := by simp [cutL]
    rw [e, ← List.append_assoc]
    congr 1
    unfold span_Cut_1.add cut1 mn mx
    rw [List.append_assoc]
theorem cut_eq {l : List Sp} (hn : l.length < 1000000) {a b : Int} : span_Cut.f l a b = some (cutS l a b) := by
  unfold span_Cut.f cutS
  by_cases c : b ≤ a
  · rw [if_pos c, if_pos c, clone_eq hn]
  · rw [if_neg c, if_neg c, if_pos (by omega)]
    unfold span_Cut.fold
    rw [cut_fold, List.nil_append]
def sp (a n : Int) : List Sp := if a < n then [⟨a, n⟩] else []
theorem sp_len (a n : Int) : (sp a n).length ≤ 1 := by unfold sp; split <;> simp
theorem wid {x : Int} (h0 : 0 ≤ x) (h1 : x ≤ 9223372036854775807) : IntKind.u64.wrap x = x := by rw [IntKind.wrap_u64]; omega
theorem cut_front {a n z : Int} (h0 : a < z) (h1 : z ≤ n) : cutS [(⟨a, n⟩ : Sp)] a z = sp z n := by
  unfold cutS
  rw [if_neg (by omega)]
  simp only [cutL, cut1, List.flatMap_cons, List.flatMap_nil]
  rw [if_pos (show a < z by omega), if_neg (by split <;> omega)]
  unfold sp
  simp
theorem cut_off {a n z : Int} (h0 : a ≤ z) (h1 : z ≤ n) : cutS (sp z n) a z = sp z n := by
  unfold cutS
  by_cases c : z ≤ a
  · rw [if_pos c]
  · rw [if_neg c]
    unfold sp
    by_cases d : z < n
    · rw [if_pos d]
      simp only [cutL, cut1, List.flatMap_cons, List.flatMap_nil]
      rw [if_neg (by split <;> omega), if_neg (show ¬ z < z by omega), if_pos d]
      simp
    · rw [if_neg d]
      rfl
theorem add_back {a n z : Int} (h0 : a < z) (h1 : z ≤ n) : addS (sp z n) a z = sp a n := by
  unfold addS
  rw [if_neg (by omega)]
  unfold sp
  rw [if_pos (show a < n by omega)]
  by_cases d : z < n
  · rw [if_pos d]
    simp only [addL]
    rw [if_neg (by omega), if_neg (by omega), if_neg (by omega), if_pos d]
  · rw [if_neg d, addL, show z = n by omega]
theorem addS_nil {a b : Int} (h : a < b) : addS [] a b = [⟨a, b⟩] := by unfold addS; rw [if_neg (by omega)]; rfl
theorem addS_no {a b : Int} (h : ¬ a < b) : addS [] a b = [] := by unfold addS; rw [if_pos (by omega)]
/-- One chunk: from a as far as z. -/
theorem tell_step {size : Int} {a n : Nat} {d : List Int} (hs : 0 < size) (hs2 : size ≤ 9223372036854775807) (hn : n ≤ 300) (ha : a < n ∨ n = 0) (han : a ≤ n) (hd : d.length = n - a) :
    ∃ (z : Nat) (tz : Int) (m : List Int), a ≤ z ∧ z ≤ n ∧ (a < z ∨ n = 0) ∧ m.length = z - a ∧ ends_tell size (a : Int) d (sp (a : Int) (n : Int)) true = some ((a : Int), tz, sp (z : Int) (n : Int), m, decide (z = n)) := by
  by_cases c : a < n
  · have e : sp (a : Int) (n : Int) = [⟨(a : Int), (n : Int)⟩] := by unfold sp; rw [if_pos (by omega)]
    have hr : rd_T37 [(⟨(a : Int), (n : Int)⟩ : Sp)] 0 = ⟨(a : Int), (n : Int)⟩ := sp_rd (l := [(⟨(a : Int), (n : Int)⟩ : Sp)]) (j := 0) (by simp)
    have w1 := wid (x := size) (by omega) hs2
    have w2 : IntKind.u64.wrap ((a : Int) + size) = (a : Int) + size := by rw [IntKind.wrap_u64]; omega
    have m1 : mn (n : Int) 1048576 = (n : Int) := by unfold mn; rw [if_neg (by omega)]
    obtain ⟨z, hz⟩ : ∃ z : Nat, mn (n : Int) ((a : Int) + size) = (z : Int) := ⟨(mn (n : Int) ((a : Int) + size)).toNat, by unfold mn; split <;> omega⟩
    have hz2 : a < z ∧ z ≤ n := by unfold mn at hz; split at hz <;> omega
    refine ⟨z, (z : Int), (d.take ((z : Int) - (a : Int)).toNat).drop ((a : Int) - (a : Int)).toNat, by omega, by omega, .inl hz2.1, by rw [List.length_drop, List.length_take]; omega, ?_⟩
    unfold ends_tell
    rw [e, if_neg (by simp), hr]
    show (if (a : Int) < mn (n : Int) 1048576 ∧ (a : Int) ≤ (a : Int) ∧ (a : Int) ≤ mn (mn (n : Int) 1048576) (IntKind.u64.wrap ((a : Int) + IntKind.u64.wrap size)) ∧ mn (mn (n : Int) 1048576) (IntKind.u64.wrap ((a : Int) + IntKind.u64.wrap size)) ≤ (a : Int) + (d.length : Int) then
      (span_Cut.f [(⟨(a : Int), (n : Int)⟩ : Sp)] (a : Int) (mn (mn (n : Int) 1048576) (IntKind.u64.wrap ((a : Int) + IntKind.u64.wrap size)))).bind fun t2 =>
        some ((a : Int), mn (mn (n : Int) 1048576) (IntKind.u64.wrap ((a : Int) + IntKind.u64.wrap size)), t2, (d.take (mn (mn (n : Int) 1048576) (IntKind.u64.wrap ((a : Int) + IntKind.u64.wrap size)) - (a : Int)).toNat).drop ((a : Int) - (a : Int)).toNat, (true && (mn (mn (n : Int) 1048576) (IntKind.u64.wrap ((a : Int) + IntKind.u64.wrap size)) == (a : Int) + (d.length : Int))))
      else none) = _
    rw [w1, w2, m1, hz, if_pos ⟨by omega, by omega, by omega, by omega⟩, cut_eq (by simp), Option.bind_some, cut_front (by omega) (by omega)]
    have hb : (true && ((z : Int) == (a : Int) + (d.length : Int))) = decide (z = n) := by
      rw [Bool.true_and]
      by_cases q : z = n
      · rw [decide_eq_true q]; exact beq_iff_eq.mpr (by omega)
      · rw [decide_eq_false q]; exact beq_eq_false_iff_ne.mpr (by omega)
    rw [hb]
  · have h0 : n = 0 := by omega
    have h1 : a = 0 := by omega
    subst h0 h1
    have h2 : d = [] := List.eq_nil_of_length_eq_zero (by omega)
    subst h2
    refine ⟨0, 0, [], by omega, by omega, .inr rfl, rfl, ?_⟩
    unfold ends_tell
    rw [if_pos (by rfl), if_pos rfl, show sp ((0 : Nat) : Int) ((0 : Nat) : Int) = [] from rfl, cut_eq (by simp), Option.bind_some]
    rfl
theorem places_step {a n z : Nat} {d m : List Int} (hn : n ≤ 300) (haz : a ≤ z) (hz : z ≤ n) (h1 : a < z ∨ n = 0) (hd : d.length = n - a) (hm : m.length = z - a) :
    supply_places.f (a : Int) (a : Int) (IntKind.u64.wrap ((a : Int) + IntKind.u64.wrap (d.length : Int))) m.length = ((a : Int), (z : Int)) := by
  have w1 : IntKind.u64.wrap (d.length : Int) = (d.length : Int) := wid (by omega) (by omega)
  have w2 : IntKind.u64.wrap ((a : Int) + (d.length : Int)) = (n : Int) := by rw [wid (by omega) (by omega)]; omega
  have w3 : IntKind.u64.wrap (m.length : Int) = (m.length : Int) := wid (by omega) (by omega)
  have w4 : IntKind.u64.wrap ((a : Int) + (m.length : Int)) = (z : Int) := by rw [wid (by omega) (by omega)]; omega
  unfold supply_places.f
  rw [w1, w2, w3, w4]
  by_cases c : (n : Int) ≤ (a : Int)
  · rw [if_pos c]
    have : a = 0 ∧ z = 0 := by omega
    rw [this.1, this.2]
    rfl
  · rw [if_neg c]
    have e1 : mx (a : Int) (a : Int) = (a : Int) := by unfold mx; split <;> rfl
    have e2 : mn (n : Int) (z : Int) = (z : Int) := by unfold mn; split <;> omega
    rw [e1, e2]
theorem lost_step {a n z k : Nat} {d m : List Int} {cf : Bool} (hk : 10 ≤ k) (hn : n ≤ 300) (haz : a ≤ z) (hz : z ≤ n) (h1 : a < z ∨ n = 0) (hd : d.length = n - a) (hm : m.length = z - a) :
    supply_Lost.f k (a : Int) d (sp (z : Int) (n : Int)) [] true (true && !cf) false (a : Int) m cf = some ((a : Int), d, sp (a : Int) (n : Int), [], true, true, false) := by
  have hl := sp_len (z : Int) (n : Int)
  unfold supply_Lost.f
  rw [if_pos ⟨by omega, by omega, by simp⟩, places_step hn haz hz h1 hd hm, add_eq (by simp) (by simp; omega), Option.bind_some]
  unfold supply_cuts
  have hf : (if (true && !cf) = true then true else (cf && true && !false)) = true := by cases cf <;> rfl
  rw [Option.bind_some, hf]
  by_cases c : a < z
  · rw [addS_nil (by omega), if_pos (by simp)]
    unfold supply_adds
    rw [add_eq (by omega) (by omega), Option.bind_some]
    unfold supply_adds
    show ((some (addS (sp (z : Int) (n : Int)) (a : Int) (z : Int))).bind _) = _
    rw [add_back (by omega) (by omega)]
    rfl
  · rw [addS_no (by omega), if_pos (by simp)]
    unfold supply_adds
    have : a = 0 ∧ z = 0 ∧ n = 0 := by omega
    rw [this.1, this.2.1, this.2.2]
    rfl
theorem came_step {a n z k : Nat} {d m : List Int} {cf : Bool} (hk : 10 ≤ k) (hn : n ≤ 300) (haz : a ≤ z) (hz : z ≤ n) (h1 : a < z ∨ n = 0) (hd : d.length = n - a) (hm : m.length = z - a) :
    ∃ d2, d2.length = n - z ∧ supply_Came.f k (a : Int) d (sp (z : Int) (n : Int)) [] true (true && !cf) false (a : Int) m cf = some ((z : Int), d2, sp (z : Int) (n : Int), [], true, !cf, cf) := by
  have hl := sp_len (z : Int) (n : Int)
  have hf : (if (cf && true) = true then false else (true && !cf)) = !cf := by cases cf <;> rfl
  have hg : (if (cf && true) = true then true else false) = cf := by cases cf <;> rfl
  unfold supply_Came.f
  rw [if_pos ⟨by omega, by omega, by simp, by omega⟩, places_step hn haz hz h1 hd hm, add_eq (by simp) (by simp; omega), Option.bind_some, cut_eq (by omega), Option.bind_some, cut_off (by omega) (by omega), hf, hg]
  by_cases c : a < z
  · have hr : rd_T37 [(⟨(a : Int), (z : Int)⟩ : Sp)] 0 = ⟨(a : Int), (z : Int)⟩ := sp_rd (l := [(⟨(a : Int), (z : Int)⟩ : Sp)]) (j := 0) (by simp)
    rw [addS_nil (by omega), if_pos (by simp)]
    unfold supply_Came_1.f
    rw [hr, if_pos ⟨by simp, rfl⟩, if_pos ⟨by show (a : Int) ≤ (z : Int); omega, by show (z : Int) - (a : Int) ≤ (d.length : Int); omega⟩, Option.bind_some]
    exact ⟨_, by rw [List.length_drop]; show d.length - ((z : Int) - (a : Int)).toNat = n - z; omega, rfl⟩
  · rw [addS_no (by omega), if_pos (by simp)]
    unfold supply_Came_1.f
    rw [if_neg (by simp), Option.bind_some]
    have : a = z := by omega
    subst this
    exact ⟨d, hd, rfl⟩
def marks (a n : Nat) : List Bool := List.replicate a true ++ List.replicate (n - a) false
theorem mark_step {n : Nat} (a : Nat) : ∀ (m j : Nat), a + j + m ≤ n → ends_mark (a : Int) m j (marks (a + j) n) = some (marks (a + j + m) n)
  | 0, j, h => rfl
  | m + 1, j, h => by
    have hl : (marks (a + j) n).length = n := by unfold marks; simp; omega
    have hg : (marks (a + j) n).getD ((a : Int) + (j : Int)).toNat true = false := by
      unfold marks
      rw [show ((a : Int) + (j : Int)).toNat = a + j by omega, List.getD_eq_getElem?_getD, List.getElem?_append_right (by rw [List.length_replicate]; omega), List.length_replicate, List.getElem?_replicate, if_pos (by omega)]
      rfl
    have hs : (marks (a + j) n).set ((a : Int) + (j : Int)).toNat true = marks (a + (j + 1)) n := by
      unfold marks
      rw [show ((a : Int) + (j : Int)).toNat = a + j by omega, List.set_append_right _ _ (by simp), show n - (a + j) = (n - (a + (j + 1))) + 1 by omega, List.replicate_succ]
      simp
      rw [show a + (j + 1) = (a + j) + 1 by omega, List.replicate_succ', List.append_assoc]
      rfl
    rw [ends_mark, if_pos ⟨by omega, by omega, hg⟩, hs, mark_step a m (j + 1) (by omega), show a + (j + 1) + m = a + j + (m + 1) by omega]
theorem go_done {k : Nat} {size b : Int} {ls : List Bool} {g : List Bool} (n i : Nat) (h0 : 0 ≤ b) (h1 : b ≤ 1000000) : ends_go k size ls n i b [] [] false true g true = some (b, [], [], false, true, g, true) := by
  cases n with
  | zero => rfl
  | succ n => rw [ends_go, if_pos ⟨by decide, by decide, h0, h1⟩, if_pos ⟨rfl, rfl⟩]
theorem go_some {k n : Nat} {size : Int} {ls : List Bool} (hk : 10 ≤ k) (hs : 0 < size) (hs2 : size ≤ 9223372036854775807) (hn : n ≤ 300) : ∀ (fuel i a : Nat) (d : List Int), (a < n ∨ n = 0) → a ≤ n → d.length = n - a →
    ∃ r, ends_go k size ls fuel i (a : Int) d (sp (a : Int) (n : Int)) true false (marks a n) false = some r ∧ ((n - a) + 1 + (ls.length - i) < fuel → r = ((n : Int), [], [], false, true, marks n n, true)) := by
  intro fuel
  induction fuel with
  | zero => exact fun i a d _ _ _ => ⟨_, rfl, fun h => by omega⟩
  | succ fuel ih =>
    intro i a d h1 h2 h3
    obtain ⟨z, tz, m, z1, z2, z3, hm, hx⟩ := tell_step hs hs2 hn h1 h2 h3
    have hsl := sp_len (a : Int) (n : Int)
    rw [ends_go, if_pos ⟨by omega, by omega, by omega, by omega⟩, if_neg (by simp), if_neg (by simp), hx, Option.bind_some]
    by_cases c : ls.getD i false = true
    · have hi : i < ls.length := by
        rcases Nat.lt_or_ge i ls.length with h | h
        · exact h
        · rw [List.getD_eq_getElem?_getD, List.getElem?_eq_none h] at c
          cases c
      rw [if_pos c]
      show ∃ r, (supply_Lost.f k (a : Int) d (sp (z : Int) (n : Int)) [] true (true && !decide (z = n)) false (a : Int) m (decide (z = n))).bind _ = some r ∧ _
      rw [lost_step hk hn z1 z2 z3 h3 hm, Option.bind_some, if_pos ⟨rfl, rfl, rfl, rfl, rfl⟩]
      obtain ⟨r, hr, hq⟩ := ih (i + 1) a d h1 h2 h3
      exact ⟨r, hr, fun h => hq (by omega)⟩
    · rw [if_neg c]
      show ∃ r, (supply_Came.f k (a : Int) d (sp (z : Int) (n : Int)) [] true (true && !decide (z = n)) false (a : Int) m (decide (z = n))).bind _ = some r ∧ _
      obtain ⟨d2, hd2, hy⟩ := came_step (cf := decide (z = n)) hk hn z1 z2 z3 h3 hm
      have hmk := mark_step (n := n) a m.length 0 (by omega)
      rw [Nat.add_zero, show a + m.length = z by omega] at hmk
      rw [hy, Option.bind_some, if_pos ⟨rfl, rfl⟩]
      show ∃ r, (ends_mark (a : Int) m.length 0 (marks a n)).bind _ = some r ∧ _
      rw [hmk, Option.bind_some]
      by_cases q : z = n
      · have e0 : d2 = [] := List.eq_nil_of_length_eq_zero (by omega)
        have e1 : sp (z : Int) (n : Int) = [] := by unfold sp; rw [if_neg (by omega)]
        subst e0
        refine ⟨((n : Int), [], [], false, true, marks n n, true), ?_, fun _ => rfl⟩
        show ends_go k size ls fuel (i + 1) (z : Int) [] (sp (z : Int) (n : Int)) (!decide (z = n)) (decide (z = n)) (marks z n) (false || decide (z = n)) = _
        rw [e1, decide_eq_true q, q]
        exact go_done fuel (i + 1) (by omega) (by omega)
      · obtain ⟨r, hr, hq⟩ := ih (i + 1) z d2 (.inl (by omega)) z2 hd2
        refine ⟨r, ?_, fun h => hq (by omega)⟩
        show ends_go k size ls fuel (i + 1) (z : Int) d2 (sp (z : Int) (n : Int)) (!decide (z = n)) (decide (z = n)) (marks z n) (false || decide (z = n)) = _
        rw [decide_eq_false q]
        exact hr
theorem SupplyEnds : wigwaglaw18_SupplyEnds.Pure := by
  intro l0 a1 l2 _ _ h1 _ _
  refine ⟨1000, ?_⟩
  unfold wigwaglaw18_SupplyEnds.f
  by_cases c : (l0.length : Int) > 300
  · rw [if_pos c]
  rw [if_neg c]
  by_cases c1 : a1 < 1
  · rw [if_pos c1]
  have hb : a1 ≤ 9223372036854775807 := by
    simp [Lit.wf, IntKind.min, IntKind.max, IntKind.signed, IntKind.bits] at h1
    omega
  have ht : addS [] 0 (l0.length : Int) = sp ((0 : Nat) : Int) (l0.length : Int) := by
    unfold sp
    by_cases q : (0 : Int) < (l0.length : Int)
    · rw [addS_nil q]; exact (if_pos q).symm
    · rw [addS_no q]; exact (if_neg q).symm
  have hg : List.replicate l0.length false = marks 0 l0.length := by unfold marks; simp
  obtain ⟨r, hr, hq⟩ := go_some (k := 1000) (n := l0.length) (size := a1) (ls := l2) (by decide) (by omega) hb (by omega) 1000 0 0 l0 (by omega) (by omega) (by omega)
  rw [if_neg c1, add_eq (by simp) (by simp), Option.bind_some, ht, hg]
  show ((ends_go 1000 a1 l2 1000 0 ((0 : Nat) : Int) l0 (sp ((0 : Nat) : Int) (l0.length : Int)) true false (marks 0 l0.length) false).bind _) = _
  rw [hr, Option.bind_some]
  by_cases q : l2.length > 600
  · by_cases w : r.2.2.2.2.2.1.all (fun x => x) = true
    · rw [if_pos w, if_pos (.inr q)]
    · rw [if_neg w, if_pos q]
  · have e := hq (by omega)
    rw [e, if_pos (by unfold marks; simp), if_pos (.inl ⟨rfl, rfl, rfl⟩)]
end Go.Proofs.Ytadhkamocbhbmaa.Pure
