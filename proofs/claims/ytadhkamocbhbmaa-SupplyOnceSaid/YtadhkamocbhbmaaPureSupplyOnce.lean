/- A stream that loses nothing is told once, part behind part, with its end at the last. -/
import Derived.Test.YtadhkamocbhbmaaStmSupplyOnce
import Derived.Test.YtadhkamocbhbmaaPx19
import Derived.Test.YtadhkamocbhbmaaPx2
import Derived.Test.YtadhkamocbhbmaaPx4
import Derived.Test.YtadhkamocbhbmaaPx7
namespace Go.Proofs.Ytadhkamocbhbmaa.Pure
open Go.RowKit Go.Proofs.Ytadhkamocbhbmaa.P Go.Proofs.YtadhkamocbhbmaaW.PrintWords Go.Proofs.YtadhkamocbhbmaaW.PrintLast Go.Proofs.YtadhkamocbhbmaaW.PrintMore
set_option linter.unusedVariables false
abbrev Sp := S37
def addL : List Sp → Int → Int → List Sp
  | [], a, b => [⟨a, b⟩]
  | x :: t, a, b => if x.f1 < a then x :: addL t a b else if b < x.f0 then ⟨a, b⟩ :: x :: t else addL t (if x.f0 < a then x.f0 else a) (if b < x.f1 then x.f1 else b)
def cut1 (x : Sp) (a b : Int) : List Sp := (if x.f0 < (if a < x.f1 then a else x.f1) then [⟨x.f0, if a < x.f1 then a else x.f1⟩] else []) ++ (if (if x.f0 < b then b else x.f0) < x.f1 then [⟨if x.f0 < b then b else x.f0, x.f1⟩] else [])
def cutL (l : List Sp) (a b : Int) : List Sp := l.flatMap (fun x => cut1 x a b)
theorem sp_rd {l : List Sp} {j : Nat} (h : j < l.length) : rd_T37 l (j : Int) = l[j] := by
  unfold rd_T37
  rw [Int.toNat_natCast, List.getD_eq_getElem?_getD, List.getElem?_eq_getElem h]
  rfl
theorem sp_up {j n : Nat} (h : j < n) (hn : n < 1000000) : wrap64 ((j : Int) + 1) = ((j + 1 : Nat) : Int) := by unfold wrap64; omega
theorem clone_eq {l : List Sp} (h : l.length < 1000000) : api_Span.f l = some l := by
  unfold api_Span.f
  rw [Option.bind_some, if_pos (by simp; omega), List.nil_append]
theorem add_loop {l : List Sp} (hn : l.length < 1000000) (d : Nat) : ∀ (j k : Nat) (out : List Sp) (a b : Int), j + d = l.length → d + 1 ≤ k → out.length ≤ j → span_Add.l0 k l out (j : Int) a b = some (out ++ addL (l.drop j) a b) := by
  induction d with
  | zero =>
    intro j k out a b hj hk ho
    obtain ⟨k, rfl⟩ : ∃ m, k = m + 1 := ⟨k - 1, by omega⟩
    have e : l.drop j = [] := List.drop_eq_nil_of_le (by omega)
    rw [span_Add.l0, if_neg (by omega), if_pos (by omega), Option.bind_some, if_pos (by omega), if_pos (by omega), Option.bind_some, Int.toNat_natCast, e, if_pos (by simp; omega)]
    rw [addL, List.append_nil]
  | succ d ih =>
    intro j k out a b hj hk ho
    obtain ⟨k, rfl⟩ : ∃ m, k = m + 1 := ⟨k - 1, by omega⟩
    have hjl : j < l.length := by omega
    have e := List.drop_eq_getElem_cons hjl
    rw [span_Add.l0, if_pos (by omega), if_pos (by omega), sp_rd hjl, sp_up hjl hn]
    by_cases c1 : (l[j]).f1 < a
    · rw [if_pos c1, if_pos (by omega), ih (j + 1) k _ a b (by omega) (by omega) (by simp; omega), e, addL, if_pos c1, List.append_assoc]
      rfl
    · rw [if_neg c1]
      by_cases c2 : b < (l[j]).f0
      · rw [if_pos c2, if_pos (by omega), Option.bind_some, if_pos (by omega), Option.bind_some, Int.toNat_natCast, if_pos (by simp; omega), e, addL, if_neg c1, if_pos c2, List.append_assoc]
        rfl
      · rw [if_neg c2, ih (j + 1) k out _ _ (by omega) (by omega) (by omega), e, addL, if_neg c1, if_neg c2]
        rfl
def addS (l : List Sp) (a b : Int) : List Sp := if b ≤ a then l else addL l a b
def cutS (l : List Sp) (a b : Int) : List Sp := if b ≤ a then l else cutL l a b
theorem add_eq {l : List Sp} (hn : l.length < 1000000) {a b : Int} {k : Nat} (hk : l.length + 1 ≤ k) : span_Add.f k l a b = some (addS l a b) := by
  unfold span_Add.f addS
  by_cases c : b ≤ a
  · rw [if_pos c, if_pos c, clone_eq hn]; rfl
  · rw [if_neg c, if_neg c]
    exact add_loop hn l.length 0 k [] a b (by omega) (by omega) (by simp)
theorem cut_fold (a b : Int) : ∀ (l o : List Sp), l.foldl (fun out x => span_Cut_1.add (span_Cut_1.add out x.f0 (mn x.f1 a)) (mx x.f0 b) x.f1) o = o ++ cutL l a b
  | [], o => by simp [cutL]
  | x :: l, o => by
    rw [List.foldl_cons, cut_fold a b l]
    have e : cutL (x :: l) a b = cut1 x a b ++ cutL l a b := by simp [cutL]
    rw [e, ← List.append_assoc]
    congr 1
    unfold span_Cut_1.add cut1 mn mx
    rw [List.append_assoc]
theorem cut_eq {l : List Sp} (hn : l.length < 1000000) {a b : Int} : span_Cut.f l a b = some (cutS l a b) := by
  unfold span_Cut.f cutS
  by_cases c : b ≤ a
  · rw [if_pos c, if_pos c, clone_eq hn]
  · rw [if_neg c, if_neg c, if_pos (by omega)]
    unfold span_Cut.fold
    rw [cut_fold, List.nil_append]
def sp (a n : Int) : List Sp := if a < n then [⟨a, n⟩] else []
theorem sp_len (a n : Int) : (sp a n).length ≤ 1 := by unfold sp; split <;> simp
theorem add_sp {a n p : Int} (h0 : a ≤ n) (hp : 0 ≤ p) : addS (sp a n) n (n + p) = sp a (n + p) := by
  unfold addS
  by_cases c : n + p ≤ n
  · rw [if_pos c, show n + p = n by omega]
  · rw [if_neg c]
    unfold sp
    rw [if_pos (show a < n + p by omega)]
    by_cases d : a < n
    · rw [if_pos d]
      simp only [addL]
      rw [if_neg (by omega), if_neg (by omega), if_pos d, if_neg (by omega)]
    · rw [if_neg d, addL, show a = n by omega]
theorem cut_sp {a n z : Int} (h0 : a < z) (h1 : z ≤ n) : cutS [(⟨a, n⟩ : Sp)] a z = sp z n := by
  unfold cutS
  rw [if_neg (by omega)]
  simp only [cutL, cut1, List.flatMap_cons, List.flatMap_nil]
  rw [if_pos (show a < z by omega), if_neg (by split <;> omega)]
  unfold sp
  simp
theorem tell_sp {size : Int} {d o : List Int} {ft : Bool} (hs : 0 < size) (hs2 : size ≤ 9223372036854775807) (hd : d.length ≤ 2000) (ho : o.length < d.length) (hp : o = d.take o.length) :
    ∃ z : Nat, o.length < z ∧ z ≤ d.length ∧ once_tell size d (sp (o.length : Int) (d.length : Int)) ft = some ((o.length : Int), (z : Int), sp (z : Int) (d.length : Int), (d.take z).drop o.length, (ft && ((z : Int) == (d.length : Int)))) ∧ o ++ (d.take z).drop o.length = d.take z := by
  have e : sp (o.length : Int) (d.length : Int) = [⟨(o.length : Int), (d.length : Int)⟩] := by unfold sp; rw [if_pos (by omega)]
  have hr : rd_T37 [(⟨(o.length : Int), (d.length : Int)⟩ : Sp)] 0 = ⟨(o.length : Int), (d.length : Int)⟩ := sp_rd (l := [(⟨(o.length : Int), (d.length : Int)⟩ : Sp)]) (j := 0) (by simp)
  have w1 : IntKind.u64.wrap size = size := by rw [IntKind.wrap_u64]; omega
  have w2 : IntKind.u64.wrap ((o.length : Int) + size) = (o.length : Int) + size := by rw [IntKind.wrap_u64]; omega
  have m1 : mn (d.length : Int) 1048576 = (d.length : Int) := by unfold mn; rw [if_neg (by omega)]
  obtain ⟨z, hz⟩ : ∃ z : Nat, mn (d.length : Int) ((o.length : Int) + size) = (z : Int) := ⟨(mn (d.length : Int) ((o.length : Int) + size)).toNat, by unfold mn; split <;> omega⟩
  have hz2 : o.length < z ∧ z ≤ d.length := by
    unfold mn at hz
    split at hz <;> omega
  refine ⟨z, hz2.1, hz2.2, ?_, ?_⟩
  · unfold once_tell
    rw [e, hr]
    show (if (o.length : Int) < mn (d.length : Int) 1048576 ∧ 0 ≤ (o.length : Int) ∧ (o.length : Int) ≤ mn (mn (d.length : Int) 1048576) (IntKind.u64.wrap ((o.length : Int) + IntKind.u64.wrap size)) ∧ mn (mn (d.length : Int) 1048576) (IntKind.u64.wrap ((o.length : Int) + IntKind.u64.wrap size)) ≤ (d.length : Int) then
      (span_Cut.f [(⟨(o.length : Int), (d.length : Int)⟩ : Sp)] (o.length : Int) (mn (mn (d.length : Int) 1048576) (IntKind.u64.wrap ((o.length : Int) + IntKind.u64.wrap size)))).bind fun t2 =>
        some ((o.length : Int), mn (mn (d.length : Int) 1048576) (IntKind.u64.wrap ((o.length : Int) + IntKind.u64.wrap size)), t2, (d.take (mn (mn (d.length : Int) 1048576) (IntKind.u64.wrap ((o.length : Int) + IntKind.u64.wrap size))).toNat).drop (o.length : Int).toNat, (ft && (mn (mn (d.length : Int) 1048576) (IntKind.u64.wrap ((o.length : Int) + IntKind.u64.wrap size)) == (d.length : Int))))
      else none) = _
    rw [w1, w2, m1, hz, if_pos ⟨by omega, by omega, by omega, by omega⟩, cut_eq (by simp), Option.bind_some, cut_sp (by omega) (by omega), Int.toNat_natCast, Int.toNat_natCast]
  · have h1 : o = (d.take z).take o.length := by rw [List.take_take, Nat.min_eq_left (by omega)]; exact hp
    conv => lhs; lhs; rw [h1]
    exact List.take_append_drop _ _
theorem go1_some {k : Nat} {size : Int} (hk : 100 ≤ k) (hs : 0 < size) (hs2 : size ≤ 9223372036854775807) : ∀ (l : List (List Int)) (d o : List Int), l.length * 100 + d.length ≤ 2000 → o.length ≤ d.length → o = d.take o.length →
    ∃ d9 o9, once_go1 k size l d (sp (o.length : Int) (d.length : Int)) o = some (d9, sp (o9.length : Int) (d9.length : Int), o9) ∧ o9.length ≤ d9.length ∧ o9 = d9.take o9.length ∧ d9.length ≤ 2000 := by
  intro l
  induction l with
  | nil => exact fun d o h1 h2 h3 => ⟨d, o, rfl, h2, h3, by simp at h1; omega⟩
  | cons p ps ih =>
    intro d o h1 h2 h3
    simp only [List.length_cons] at h1
    rw [once_go1]
    by_cases c : (p.length : Int) > 100
    · rw [if_pos c]
      exact ih d o (by omega) h2 h3
    · have l1 := sp_len (o.length : Int) (d.length : Int)
      have l2 := sp_len (o.length : Int) ((d.length : Int) + (p.length : Int))
      have h4 : o = (d ++ p).take o.length := by rw [List.take_append_of_le_length h2]; exact h3
      have hl : ((d.length : Int) + (p.length : Int)) = ((d ++ p).length : Int) := by rw [List.length_append]; omega
      have hln : (d ++ p).length = d.length + p.length := List.length_append
      rw [if_neg c, add_eq (by omega) (by omega), Option.bind_some, add_sp (by omega) (by omega), if_pos ⟨by omega, by omega, by omega, by omega⟩, hl]
      by_cases e : o.length < (d ++ p).length
      · obtain ⟨z, hz1, hz2, hx, hy⟩ := tell_sp (size := size) (d := d ++ p) (o := o) (ft := false) hs hs2 (by omega) e h4
        have hn : ¬ (sp (o.length : Int) ((d ++ p).length : Int)).length = 0 := by unfold sp; rw [if_pos (by omega)]; simp
        rw [if_neg hn, hx, Option.bind_some, if_pos rfl]
        show ∃ d9 o9, once_go1 k size ps (d ++ p) (sp (z : Int) ((d ++ p).length : Int)) (o ++ ((d ++ p).take z).drop o.length) = some (d9, sp (o9.length : Int) (d9.length : Int), o9) ∧ _
        rw [hy]
        have hzl : ((d ++ p).take z).length = z := by rw [List.length_take]; omega
        have := ih (d ++ p) ((d ++ p).take z) (by omega) (by omega) (by rw [hzl])
        rw [hzl] at this
        exact this
      · have hn : (sp (o.length : Int) ((d ++ p).length : Int)).length = 0 := by unfold sp; rw [if_neg (by omega)]; rfl
        rw [if_pos hn]
        exact ih (d ++ p) o (by omega) (by omega) h4
theorem go2_end {size : Int} {d : List Int} (hd : d.length ≤ 2000) (n : Nat) : once_go2 size d (n + 1) [] false d true = some ([], false, d, true) := by
  rw [once_go2, if_pos ⟨by simp, by omega⟩, if_pos (show ([] : List Sp).length = 0 from rfl), if_pos rfl]
theorem go2_some {size : Int} {d : List Int} (hs : 0 < size) (hs2 : size ≤ 9223372036854775807) (hd : d.length ≤ 2000) : ∀ (n : Nat) (o : List Int), o.length ≤ d.length → o = d.take o.length → d.length - o.length + 2 ≤ n →
    ∃ t8 ft8, once_go2 size d n (sp (o.length : Int) (d.length : Int)) true o false = some (t8, ft8, d, true) := by
  intro n
  induction n with
  | zero => intro o _ _ h; omega
  | succ n ih =>
    intro o h1 h2 h3
    have l1 := sp_len (o.length : Int) (d.length : Int)
    rw [once_go2, if_pos ⟨by omega, by omega⟩]
    by_cases e : o.length < d.length
    · obtain ⟨z, hz1, hz2, hx, hy⟩ := tell_sp (size := size) (d := d) (o := o) (ft := true) hs hs2 hd e h2
      have hn : ¬ (sp (o.length : Int) (d.length : Int)).length = 0 := by unfold sp; rw [if_pos (by omega)]; simp
      rw [if_neg hn, hx, Option.bind_some, if_pos ⟨rfl, rfl⟩]
      show ∃ t8 ft8, once_go2 size d n (sp (z : Int) (d.length : Int)) (true && !(true && ((z : Int) == (d.length : Int)))) (o ++ (d.take z).drop o.length) (true && ((z : Int) == (d.length : Int))) = some (t8, ft8, d, true)
      rw [hy]
      by_cases q : z = d.length
      · have hq : ((z : Int) == (d.length : Int)) = true := beq_iff_eq.mpr (by omega)
        have hsp : sp (z : Int) (d.length : Int) = [] := by unfold sp; rw [if_neg (by omega)]
        have htk : d.take z = d := by rw [q, List.take_length]
        obtain ⟨m, rfl⟩ : ∃ m, n = m + 1 := ⟨n - 1, by omega⟩
        rw [hq, hsp, htk]
        exact ⟨[], false, go2_end hd m⟩
      · have hq : ((z : Int) == (d.length : Int)) = false := beq_eq_false_iff_ne.mpr (by omega)
        have hzl : (d.take z).length = z := by rw [List.length_take]; omega
        have := ih (d.take z) (by omega) (by rw [hzl]) (by omega)
        rw [hzl] at this
        rw [hq]
        exact this
    · have he : o.length = d.length := by omega
      have ho : o = d := by rw [h2, he, List.take_length]
      have hn : sp (o.length : Int) (d.length : Int) = [] := by unfold sp; rw [if_neg (by omega)]
      obtain ⟨m, rfl⟩ : ∃ m, n = m + 1 := ⟨n - 1, by omega⟩
      rw [hn, if_pos (show ([] : List Sp).length = 0 from rfl), if_neg (by decide), if_pos ⟨rfl, by omega⟩, cut_eq (by simp), Option.bind_some, ho]
      have hc : cutS [] (d.length : Int) (d.length : Int) = [] := by unfold cutS; rw [if_pos (Int.le_refl _)]
      rw [hc]
      exact ⟨[], false, go2_end hd m⟩
theorem SupplyOnce : wigwaglaw18_SupplyOnce.Pure := by
  intro l0 a1 _ _ h1
  refine ⟨1000, ?_⟩
  unfold wigwaglaw18_SupplyOnce.f
  by_cases c : a1 < 1
  · rw [if_pos c]
  have hb : a1 ≤ 9223372036854775807 := by
    simp [Lit.wf, IntKind.min, IntKind.max, IntKind.signed, IntKind.bits] at h1
    omega
  obtain ⟨d9, o9, hg, h2, h3, h4⟩ := go1_some (k := 1000) (size := a1) (by decide) (by omega) hb (l0.take 20) [] [] (by rw [List.length_take]; simp; omega) (by simp) rfl
  have hsp : sp (([] : List Int).length : Int) (([] : List Int).length : Int) = [] := rfl
  rw [hsp] at hg
  have hl := sp_len (o9.length : Int) (d9.length : Int)
  obtain ⟨t8, ft8, hq⟩ := go2_some (size := a1) (d := d9) (by omega) hb h4 2100 o9 h2 h3 (by omega)
  rw [if_neg c, hg, Option.bind_some, if_pos ⟨by show d9.length ≤ 100000; omega, by show (sp (o9.length : Int) (d9.length : Int)).length < 1000000; omega⟩]
  show ((once_go2 a1 d9 2100 (sp (o9.length : Int) (d9.length : Int)) true o9 false).bind _) = _
  rw [hq, Option.bind_some, if_pos ⟨rfl, rfl⟩]
end Go.Proofs.Ytadhkamocbhbmaa.Pure
