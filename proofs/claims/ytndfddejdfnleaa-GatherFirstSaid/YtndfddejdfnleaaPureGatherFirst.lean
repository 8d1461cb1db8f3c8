/- What came first of a place stays. -/
import Derived.Test.YtndfddejdfnleaaXa
import Derived.Test.YtndfddejdfnleaaPx14
namespace Go.Proofs.Ytndfddejdfnleaa.Pure
open Go.RowKit Go.Proofs.Ytndfddejdfnleaa.P Go.Proofs.YtndfddejdfnleaaW.PrintWords Go.Proofs.YtndfddejdfnleaaW.PrintLast
set_option linter.unusedVariables false
def spans (l : List Int) : List Sp := if l.length = 0 then [] else [⟨0, (l.length : Int)⟩]
theorem splice_all (l : List Int) (m : Nat) (h : m = l.length) : splice (List.replicate m 0) 0 (gather_Put_1.seg l 0 l.length) = l := by
  unfold splice gather_Put_1.seg
  rw [List.drop_zero, List.take_length, List.take_zero, List.nil_append, List.drop_eq_nil_of_le (by simp; omega), List.append_nil]
theorem put_first {l : List Int} {k : Nat} (hk : 2 ≤ k) (hl : l.length ≤ 300) : gather_Put.f k 0 [] [] false 0 0 l false = some (0, spans l, l, false, 0, 0) := by
  obtain ⟨K, D, hp, hc⟩ := put0 (l := l) (a := 0) hk (by decide) (by omega)
  rw [hp]
  unfold spans
  rcases hc with ⟨q, rfl, rfl⟩ | ⟨q, rfl, hD⟩
  · rw [if_pos q, List.eq_nil_of_length_eq_zero q]
  · rw [if_neg (by omega), hD, Int.toNat_zero, splice_all l _ (by omega), Int.zero_add]
theorem put_second {l o : List Int} {k : Nat} (hk : 3 ≤ k) (hl : l.length ≤ 300) (ho : o.length ≤ 300) : gather_Put.f k 0 (spans l) l false 0 0 o false = some (0, spans (l ++ o.drop l.length), l ++ o.drop l.length, false, 0, 0) := by
  by_cases c : l.length = 0
  · have : l = [] := List.eq_nil_of_length_eq_zero c
    subst this
    have h := put_first (l := o) (k := k) (by omega) ho
    simpa [spans] using h
  · obtain ⟨m, hm⟩ : ∃ m : Int, m = (l.length : Int) := ⟨_, rfl⟩
    obtain ⟨e, he⟩ : ∃ e : Int, e = (o.length : Int) := ⟨_, rfl⟩
    have hs : spans l = [⟨0, m⟩] := by unfold spans; rw [if_neg c, hm]
    have hs2 : spans (l ++ o.drop l.length) = [⟨0, if m < e then e else m⟩] := by
      unfold spans
      rw [if_neg (by rw [List.length_append]; omega)]
      have : ((l ++ o.drop l.length).length : Int) = if m < e then e else m := by
        rw [List.length_append, List.length_drop]
        split <;> omega
      rw [this]
    rw [hs, hs2]
    unfold gather_Put.f
    rw [if_pos ⟨by decide, by decide, by decide, by omega, by simp, by omega⟩, if_neg (by simp), if_neg (by decide)]
    unfold gather_Put.body
    have hx : mx (0 : Int) 0 = 0 := by unfold mx; split <;> omega
    rw [hx, show (0 : Int) + (o.length : Int) = e by omega]
    by_cases c2 : e ≤ 0
    · rw [if_pos c2, if_neg (by omega), List.drop_eq_nil_of_le (by omega), List.append_nil]
    · rw [if_neg c2]
      have hA : addS [⟨0, m⟩] 0 e = [⟨0, if m < e then e else m⟩] := by
        unfold addS
        rw [if_neg c2]
        simp only [addL]
        rw [if_neg (by omega), if_neg (by omega), if_neg (by omega)]
        have : (if e < m then m else e) = (if m < e then e else m) := by split <;> split <;> omega
        rw [this]
      unfold gather_Put.cuts
      rw [cut_eq (by simp), Option.bind_some]
      unfold gather_Put.cuts
      rw [Option.bind_some, add_eq (by simp) (by simp; omega)]
      by_cases c3 : m < e
      · have hc : cutS [(⟨0, e⟩ : Sp)] (⟨0, m⟩ : Sp).f0 (⟨0, m⟩ : Sp).f1 = [⟨m, e⟩] := by
          show cutS [(⟨0, e⟩ : Sp)] 0 m = _
          unfold cutS
          rw [if_neg (by omega)]
          simp only [cutL, cut1, List.flatMap_cons, List.flatMap_nil]
          rw [if_neg (by split <;> omega), if_pos (by omega), if_pos (show (0 : Int) < m by omega)]
          simp
        have hg : gather_Put.grow l (e - 0) = l ++ List.replicate (o.length - l.length) 0 := by
          unfold gather_Put.grow
          rw [if_pos (by omega)]
          congr 2
          omega
        have hy : gather_Put.lays 0 0 o (l ++ List.replicate (o.length - l.length) 0) [⟨m, e⟩] = some (l ++ o.drop l.length) := by
          unfold gather_Put.lays gather_Put.lay
          rw [if_pos (by simp only [List.length_append, List.length_replicate]; omega)]
          unfold gather_Put.lays
          rw [Option.bind_some]
          have e1 : (m - 0).toNat = l.length := by omega
          have e2 : (e - 0).toNat - (m - 0).toNat = (o.drop l.length).length := by rw [List.length_drop]; omega
          rw [e2, e1]
          unfold splice gather_Put_1.seg
          have t1 : (l ++ List.replicate (o.length - l.length) (0 : Int)).take l.length = l := by rw [List.take_left]
          have t2 : (l ++ List.replicate (o.length - l.length) (0 : Int)).drop (l.length + (o.drop l.length).length) = [] := List.drop_eq_nil_of_le (by simp only [List.length_append, List.length_replicate, List.length_drop]; omega)
          rw [List.take_length, t1, t2, List.append_nil]
        rw [hc, if_pos (by simp), hg, hy, Option.bind_some, Option.bind_some, hA]
      · have hc : cutS [(⟨0, e⟩ : Sp)] (⟨0, m⟩ : Sp).f0 (⟨0, m⟩ : Sp).f1 = [] := by
          show cutS [(⟨0, e⟩ : Sp)] 0 m = _
          unfold cutS
          rw [if_neg (by omega)]
          simp only [cutL, cut1, List.flatMap_cons, List.flatMap_nil]
          rw [if_neg (by split <;> omega), if_neg (by split <;> omega)]
          rfl
        have hg : gather_Put.grow l (e - 0) = l := by
          unfold gather_Put.grow
          rw [if_neg (by omega)]
        rw [hc, if_pos (by simp), hg]
        unfold gather_Put.lays
        rw [Option.bind_some, Option.bind_some, hA, List.drop_eq_nil_of_le (by omega), List.append_nil]
theorem ready_one {D : List Int} {a e : Int} {k : Nat} (hk : 1 ≤ k) (he : 0 ≤ e ∧ e < 1048577) : gather_Ready.f k 0 [⟨a, e⟩] D false 0 = some (if a = 0 then e else 0) := by
  obtain ⟨k, rfl⟩ : ∃ j, k = j + 1 := ⟨k - 1, by omega⟩
  unfold gather_Ready.f
  have r : rd_T41 [(⟨a, e⟩ : Sp)] 0 = ⟨a, e⟩ := sp_rd (l := [(⟨a, e⟩ : Sp)]) (j := 0) (by simp)
  rw [if_neg (by simp), if_pos (by simp), r]
  by_cases c : a = 0
  · subst c
    rw [if_pos rfl]
    show (if (0 : Int) < (([(⟨0, e⟩ : Sp)].length : Nat) : Int) then some (wrap64 (IntKind.u64.wrap ((rd_T41 [(⟨0, e⟩ : Sp)] 0).f1 - 0))) else none) = _
    rw [if_pos (by simp), r]
    have : IntKind.u64.wrap (e - 0) = e := by rw [IntKind.wrap_u64]; omega
    show some (wrap64 (IntKind.u64.wrap (e - 0))) = _
    rw [this]
    have : wrap64 e = e := by unfold wrap64; omega
    rw [this]
  · rw [if_neg c]
    have : (a != 0) = true := bne_iff_ne.mpr c
    show gather_Ready.j0 (k + 1) (a != 0) _ _ _ _ _ = _
    rw [this]
    rfl
theorem read_spans {r : List Int} {k : Nat} (hk : 1 ≤ k) (hr : r.length ≤ 600) : ∃ q, gather_Read.f k 0 (spans r) r false 0 1000 = some q ∧ q.2.2.2.2.2.1 = r := by
  have hR : gather_Ready.f k 0 (spans r) r false 0 = some (r.length : Int) := by
    obtain ⟨k, rfl⟩ : ∃ j, k = j + 1 := ⟨k - 1, by omega⟩
    unfold spans
    by_cases c : r.length = 0
    · rw [if_pos c, c]
      rfl
    · rw [if_neg c]
      have h := ready_one (D := r) (a := 0) (e := (r.length : Int)) (k := k + 1) (by omega) (by omega)
      rw [h, if_pos rfl]
  have hn : mx (mn 1000 (r.length : Int)) 0 = (r.length : Int) := by unfold mx mn; (repeat' split) <;> omega
  have hK : (spans r).length < 1000000 := by unfold spans; split <;> simp
  unfold gather_Read.f
  rw [hR, Option.bind_some, hn, if_pos (by omega), if_pos (Int.le_refl _), Int.toNat_natCast, List.take_length, clone_u8 (by omega), Option.bind_some, clone_u8 (by simp), Option.bind_some, cut_eq hK, Option.bind_some, if_neg (by decide)]
  exact ⟨_, rfl, rfl⟩
theorem GatherFirst : wigwaglaw17_GatherFirst.Pure := by
  intro l0 l1 _ _ _ _ _ _
  refine ⟨10, ?_⟩
  unfold wigwaglaw17_GatherFirst.f
  rw [show wigwaglaw17_awake.f = some true from rfl, Option.bind_some]
  by_cases c : (l0.length : Int) > 300
  · rw [if_pos c]
    rfl
  · rw [if_neg c]
    by_cases c1 : (l1.length : Int) > 300
    · rw [decide_eq_true c1]
      rfl
    · rw [decide_eq_false c1, wigwaglaw17_GatherFirst.j0, if_neg (by decide), put_first (by decide) (by omega), Option.bind_some, put_second (by decide) (by omega) (by omega), Option.bind_some]
      obtain ⟨q, hq, hr⟩ := read_spans (r := l0 ++ l1.drop l0.length) (k := 9) (by decide) (by simp; omega)
      rw [hq, Option.bind_some, hr, if_pos (by rw [List.length_append, List.length_drop]; unfold mx; split <;> omega), if_pos rfl, if_pos (by omega), if_pos (by rw [List.length_append]; omega), Int.toNat_natCast, if_pos (by rw [List.take_left])]
      by_cases d : (l1.length : Int) ≤ (l0.length : Int)
      · rw [if_pos d]
      · rw [if_neg d, if_pos (by omega), List.drop_left]
        simp
end Go.Proofs.Ytndfddejdfnleaa.Pure
