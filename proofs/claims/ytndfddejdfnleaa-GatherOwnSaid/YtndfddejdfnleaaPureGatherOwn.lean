/- What is given stays as it was. -/
import Derived.Test.YtndfddejdfnleaaXa
import Derived.Test.YtndfddejdfnleaaPx15
import Derived.Test.YtndfddejdfnleaaPx16
import Derived.Test.YtndfddejdfnleaaPx17
namespace Go.Proofs.Ytndfddejdfnleaa.Pure
open Go.RowKit Go.Proofs.Ytndfddejdfnleaa.P Go.Proofs.YtndfddejdfnleaaW.PrintWords Go.Proofs.YtndfddejdfnleaaW.PrintLast
set_option linter.unusedVariables false
theorem same_loop {D : List Int} {a e : Int} (ha : 0 ≤ a) (hE : e ≤ 1048576) (hD : (D.length : Int) = e) (d : Nat) : ∀ (x : Int) (k : Nat), a ≤ x → x + d = e → 2 * d + 4 ≤ k → wigwagref17_Same.l1 k 0 x 0 [⟨a, e⟩] D false 0 0 [⟨a, e⟩] D false 0 = some true := by
  have r : rd_T41 [(⟨a, e⟩ : Sp)] 0 = ⟨a, e⟩ := sp_rd (l := [(⟨a, e⟩ : Sp)]) (j := 0) (by simp)
  induction d with
  | zero =>
    intro x k hx he hk
    obtain ⟨k, rfl⟩ : ∃ j, k = j + 2 := ⟨k - 2, by omega⟩
    unfold wigwagref17_Same.l1
    rw [if_pos (by decide), if_pos (by simp), r, if_neg (by show ¬ x < e; omega)]
    unfold wigwagref17_Same.l0
    have w : wrap64 ((0 : Int) + 1) = 1 := by unfold wrap64; omega
    rw [w, if_neg (by simp)]
  | succ d ih =>
    intro x k hx he hk
    obtain ⟨k, rfl⟩ : ∃ j, k = j + 2 := ⟨k - 2, by omega⟩
    unfold wigwagref17_Same.l1
    have w1 : IntKind.u64.wrap (x - 0) = x := by rw [IntKind.wrap_u64]; omega
    have w2 : IntKind.u64.wrap (D.length : Int) = (D.length : Int) := by rw [IntKind.wrap_u64]; omega
    have w3 : IntKind.u64.wrap (x + 1) = x + 1 := by rw [IntKind.wrap_u64]; omega
    rw [if_pos (by decide), if_pos (by simp), r, if_pos (by show x < e; omega), w1, w2, if_neg (by omega), if_neg (by omega), if_pos (by omega), if_pos (by omega), if_pos (by omega)]
    unfold wigwagref17_Same.j3
    rw [if_neg (by simp), w3]
    exact ih (x + 1) k (by omega) (by omega) (by omega)
theorem same_sp {s : Sp} {k : Nat} (hk : 2 ≤ k) : wigwagref07_Same.f k [s] [s] = some true := by
  obtain ⟨k, rfl⟩ : ∃ j, k = j + 2 := ⟨k - 2, by omega⟩
  have w : wrap64 ((0 : Int) + 1) = 1 := by unfold wrap64; omega
  unfold wigwagref07_Same.f
  rw [if_pos rfl]
  unfold wigwagref07_Same.l0
  rw [if_pos (by simp), if_pos (by decide), if_pos (by simp), if_neg (by simp), w]
  unfold wigwagref07_Same.l0
  rw [if_neg (by simp)]
theorem same_one {D : List Int} {a e : Int} {k : Nat} (ha : 0 ≤ a) (hae : a < e) (hE : e ≤ 1048576) (hD : (D.length : Int) = e) (hk : 2 * (e - a).toNat + 8 ≤ k) : wigwagref17_Same.f k 0 [⟨a, e⟩] D false 0 0 [⟨a, e⟩] D false 0 = some true := by
  obtain ⟨k, rfl⟩ : ∃ j, k = j + 2 := ⟨k - 2, by omega⟩
  have r : rd_T41 [(⟨a, e⟩ : Sp)] 0 = ⟨a, e⟩ := sp_rd (l := [(⟨a, e⟩ : Sp)]) (j := 0) (by simp)
  unfold wigwagref17_Same.f
  rw [same_sp (by omega), Option.bind_some, if_pos rfl, if_pos rfl, if_neg (by decide)]
  rw [wigwagref17_Same.j0, if_neg (by decide)]
  unfold wigwagref17_Same.l0
  rw [if_pos (by simp), if_pos (by decide), r]
  exact same_loop ha hE hD (e - a).toNat a k (by omega) (by omega) (by omega)
theorem same_none {k : Nat} (hk : 4 ≤ k) (D : List Int) : wigwagref17_Same.f k 0 [] D false 0 0 [] D false 0 = some true := by
  obtain ⟨k, rfl⟩ : ∃ j, k = j + 3 := ⟨k - 3, by omega⟩
  have h7 : wigwagref07_Same.f (k + 3) [] [] = some true := by
    unfold wigwagref07_Same.f
    rw [if_pos rfl, wigwagref07_Same.l0, if_neg (by simp)]
  unfold wigwagref17_Same.f
  rw [h7, Option.bind_some, if_pos rfl, if_pos rfl, if_neg (by decide), wigwagref17_Same.j0, if_neg (by decide), wigwagref17_Same.l0, if_neg (by simp)]
theorem lays_some {l : List Int} {m : Int} (hm : m = (l.length : Int)) (hl : l.length < 1000) : ∀ (fr : List Sp) (d : List Int), (∀ s ∈ fr, 0 ≤ s.f0 ∧ s.f0 < s.f1 ∧ s.f1 ≤ m) → m ≤ (d.length : Int) → d.length < 2000000 → ∃ d2, gather_Put.lays 0 0 l d fr = some d2 ∧ d2.length = d.length
  | [], d, _, _, _ => ⟨d, rfl, rfl⟩
  | s :: t, d, h, h1, h2 => by
    have hs := h s (List.mem_cons_self ..)
    unfold gather_Put.lays gather_Put.lay
    rw [if_pos (by omega), Option.bind_some]
    have hq : (splice d (s.f0 - 0).toNat (gather_Put_1.seg l (s.f0 - 0).toNat ((s.f1 - 0).toNat - (s.f0 - 0).toNat))).length = d.length := by
      rw [splice_length]
      have := seg_len l (s.f0 - 0).toNat ((s.f1 - 0).toNat - (s.f0 - 0).toNat)
      omega
    obtain ⟨d2, he, hd⟩ := lays_some hm hl t _ (fun u hu => h u (List.mem_cons_of_mem _ hu)) (by rw [hq]; exact h1) (by rw [hq]; exact h2)
    exact ⟨d2, he, by rw [hd, hq]⟩
theorem put_low {l D : List Int} {a e : Int} {k : Nat} (hk : 3 ≤ k) (ha : 0 ≤ a) (hae : a < e) (hE : e ≤ 70000) (hl : 0 < l.length) (hl2 : l.length < 1000) (hD : (D.length : Int) = e) : ∃ K2 D2, gather_Put.f k 0 [⟨a, e⟩] D false 0 0 l false = some (0, K2, D2, false, 0, 0) ∧ K2.length ≤ 2 ∧ D2.length ≤ 71000 := by
  obtain ⟨m, hm⟩ : ∃ m, m = (l.length : Int) := ⟨_, rfl⟩
  unfold gather_Put.f
  rw [if_pos ⟨by decide, by decide, by decide, by omega, by simp, by omega⟩, if_neg (by simp), if_neg (by decide)]
  unfold gather_Put.body
  have hx : mx (0 : Int) 0 = 0 := by unfold mx; split <;> omega
  rw [hx, if_neg (by omega), show (0 : Int) + (l.length : Int) = m by omega]
  have ok1 : Ok [(⟨0, m⟩ : Sp)] := ok_one (by show (0 : Int) < m; omega)
  have hc := cutS_ok (a := a) (b := e) ok1
  have hb : ∀ s ∈ cutS [(⟨0, m⟩ : Sp)] a e, 0 ≤ s.f0 ∧ s.f0 < s.f1 ∧ s.f1 ≤ m := by
    intro s hs
    have h1 := hc.1.1 s hs
    have q1 := mem_one.mp ((hc.2 s.f0).mp ⟨s, hs, Int.le_refl _, h1⟩).1
    have q2 := mem_one.mp ((hc.2 (s.f1 - 1)).mp ⟨s, hs, by omega, by omega⟩).1
    have q3 : (0 : Int) ≤ s.f0 := q1.1
    have q4 : s.f1 - 1 < m := q2.2
    exact ⟨q3, h1, by omega⟩
  have hg : m ≤ ((gather_Put.grow D (m - 0)).length : Int) ∧ (gather_Put.grow D (m - 0)).length ≤ 71000 := by
    unfold gather_Put.grow
    split
    · simp only [List.length_append, List.length_replicate]
      omega
    · omega
  obtain ⟨d2, h2, h3⟩ := lays_some hm hl2 _ _ hb hg.1 (by omega)
  have hcl := cutS_len [(⟨0, m⟩ : Sp)] a e
  have hq : cutS [(⟨0, m⟩ : Sp)] (⟨a, e⟩ : Sp).f0 (⟨a, e⟩ : Sp).f1 = cutS [(⟨0, m⟩ : Sp)] a e := rfl
  have hlt : (cutS [(⟨0, m⟩ : Sp)] a e).length < 1000000 := by simp at hcl; omega
  unfold gather_Put.cuts
  rw [cut_eq (by simp), Option.bind_some, hq]
  unfold gather_Put.cuts
  rw [Option.bind_some, if_pos hlt, h2, Option.bind_some, add_eq (by simp) (by simp; omega), Option.bind_some]
  exact ⟨_, d2, rfl, by have := addS_len [(⟨a, e⟩ : Sp)] 0 m; simp at this; omega, by omega⟩
def Fin (l : List Int) (a : Int) (K : List Sp) (D : List Int) : Prop := ∀ k, 1000 ≤ k → gather_Put.f k 0 [] [] false 0 a l false = some (0, K, D, false, 0, 0) ∧ wigwagref17_Same.f k 0 K D false 0 0 K D false 0 = some true
theorem own_l1 {l : List Int} {a : Int} {K : List Sp} {D : List Int} (ha : IntKind.u64.wrap a = a) (hF : Fin l a K D) (D2 : List Int) (d : Nat) : ∀ (K2 : List Sp) (j k : Nat), j + d = K2.length → K2.length < 1000 → d + 1001 ≤ k → wigwaglaw17_GatherOwn.l1 k l a true l (j : Int) 0 K D false 0 0 K2 D2 false 0 = some true := by
  induction d with
  | zero =>
    intro K2 j k hj hK hk
    obtain ⟨k, rfl⟩ : ∃ i, k = i + 1 := ⟨k - 1, by omega⟩
    rw [wigwaglaw17_GatherOwn.l1, if_neg (by omega), ha, (hF k (by omega)).1, Option.bind_some, (hF k (by omega)).2, Option.bind_some, if_pos rfl, if_pos rfl]
    simp
  | succ d ih =>
    intro K2 j k hj hK hk
    obtain ⟨k, rfl⟩ : ∃ i, k = i + 1 := ⟨k - 1, by omega⟩
    have w : wrap64 ((j : Int) + 1) = ((j + 1 : Nat) : Int) := by unfold wrap64; omega
    rw [wigwaglaw17_GatherOwn.l1, if_pos (by omega), if_pos (by omega), w]
    exact ih _ (j + 1) k (by rw [List.length_set]; omega) (by rw [List.length_set]; omega) (by omega)
theorem own_l0 {l : List Int} {a : Int} {K : List Sp} {D : List Int} (ha : IntKind.u64.wrap a = a) (hF : Fin l a K D) (K2 : List Sp) (hK : K2.length < 1000) (d : Nat) : ∀ (D2 : List Int) (j k : Nat), j + d = D2.length → D2.length < 1000000 → d + 3000 ≤ k → wigwaglaw17_GatherOwn.l0 k l a true l (j : Int) 0 K D false 0 0 K2 D2 false 0 = some true := by
  induction d with
  | zero =>
    intro D2 j k hj hD hk
    obtain ⟨k, rfl⟩ : ∃ i, k = i + 1 := ⟨k - 1, by omega⟩
    rw [wigwaglaw17_GatherOwn.l0, if_neg (by omega)]
    exact own_l1 ha hF D2 K2.length K2 0 k (by omega) hK (by omega)
  | succ d ih =>
    intro D2 j k hj hD hk
    obtain ⟨k, rfl⟩ : ∃ i, k = i + 1 := ⟨k - 1, by omega⟩
    have w : wrap64 ((j : Int) + 1) = ((j + 1 : Nat) : Int) := by unfold wrap64; omega
    rw [wigwaglaw17_GatherOwn.l0, if_pos (by omega), if_pos (by omega), w]
    exact ih _ (j + 1) k (by rw [List.length_set]; omega) (by rw [List.length_set]; omega) (by omega)
theorem put_all {l : List Int} {a : Int} (ha : 0 ≤ a ∧ a ≤ 65535) (hl : l.length ≤ 300) : ∃ K D, Fin l a K D ∧ ∀ k, 3 ≤ k → ∃ K2 D2, gather_Put.f k 0 K D false 0 0 l false = some (0, K2, D2, false, 0, 0) ∧ K2.length ≤ 2 ∧ D2.length ≤ 71000 := by
  by_cases c : l.length = 0
  · refine ⟨[], [], fun k hk => ?_, fun k hk => ?_⟩
    · obtain ⟨K, D, hp, hc⟩ := put0 (l := l) (a := a) (k := k) (by omega) ha.1 (by omega)
      rcases hc with ⟨_, rfl, rfl⟩ | ⟨hq, _, _⟩
      · exact ⟨hp, same_none (by omega) _⟩
      · exact absurd hq (by omega)
    · obtain ⟨K, D, hp, hc⟩ := put0 (l := l) (a := 0) (k := k) (by omega) (by decide) (by omega)
      rcases hc with ⟨_, rfl, rfl⟩ | ⟨hq, _, _⟩
      · exact ⟨[], [], hp, by simp, by simp⟩
      · exact absurd hq (by omega)
  · obtain ⟨e, he⟩ : ∃ e, e = a + (l.length : Int) := ⟨_, rfl⟩
    obtain ⟨D, hD⟩ : ∃ D, D = splice (List.replicate e.toNat 0) a.toNat (gather_Put_1.seg l 0 l.length) := ⟨_, rfl⟩
    have hDl : (D.length : Int) = e := by
      rw [hD, splice_length _ _ _ (by have := seg_len l 0 l.length; simp only [List.length_replicate]; omega), List.length_replicate]
      omega
    refine ⟨[⟨a, e⟩], D, fun k hk => ?_, fun k hk => put_low hk ha.1 (by omega) (by omega) (by omega) (by omega) hDl⟩
    obtain ⟨K, D', hp, hc⟩ := put0 (l := l) (a := a) (k := k) (by omega) ha.1 (by omega)
    rcases hc with ⟨q, _, _⟩ | ⟨_, rfl, hD'⟩
    · exact absurd q c
    · rw [← he] at hp hD'
      rw [← hD] at hD'
      rw [hD'] at hp
      exact ⟨hp, same_one ha.1 (by omega) (by omega) hDl (by omega)⟩
theorem GatherOwn : wigwaglaw17_GatherOwn.Pure := by
  intro l0 a1 hl hs hx h1
  have b1 := u16_bd h1
  refine ⟨100000, ?_⟩
  unfold wigwaglaw17_GatherOwn.f
  rw [show wigwaglaw17_awake.f = some true from rfl, Option.bind_some]
  by_cases c : (l0.length : Int) > 300
  · rw [if_pos c]
  · rw [if_neg c]
    have w1 : IntKind.u64.wrap a1 = a1 := by rw [IntKind.wrap_u64]; omega
    obtain ⟨K, D, hF, hP⟩ := put_all (l := l0) b1 (by omega)
    obtain ⟨K2, D2, hp, hk2, hd2⟩ := hP 100000 (by decide)
    rw [Option.bind_some, if_pos (by simp; omega), Option.bind_some, List.nil_append, w1, (hF 100000 (by decide)).1, Option.bind_some, hp, Option.bind_some]
    exact own_l0 w1 hF K2 (by omega) D2.length D2 0 100000 (by omega) (by omega) (by omega)
end Go.Proofs.Ytndfddejdfnleaa.Pure
