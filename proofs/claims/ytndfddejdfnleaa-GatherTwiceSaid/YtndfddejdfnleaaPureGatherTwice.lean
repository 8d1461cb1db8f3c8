/- A part that comes twice is as if it came once. -/
import Derived.Test.YtndfddejdfnleaaXa
import Derived.Test.YtndfddejdfnleaaPx15
import Derived.Test.YtndfddejdfnleaaPx16
import Derived.Test.YtndfddejdfnleaaPx19
namespace Go.Proofs.Ytndfddejdfnleaa.Pure
open Go.RowKit Go.Proofs.Ytndfddejdfnleaa.P Go.Proofs.YtndfddejdfnleaaW.PrintWords Go.Proofs.YtndfddejdfnleaaW.PrintLast
set_option linter.unusedVariables false
theorem put_again {l D : List Int} {a e : Int} {k : Nat} (hk : 2 ≤ k) (ha : 0 ≤ a) (he : e = a + (l.length : Int)) (hl : 0 < l.length) (hE : e ≤ 1048576) (hD : (D.length : Int) = e) : gather_Put.f k 0 [⟨a, e⟩] D false 0 a l false = some (0, [⟨a, e⟩], D, false, 0, 0) := by
  unfold gather_Put.f
  rw [if_pos ⟨by decide, by decide, ha, by omega, by simp, by omega⟩, if_neg (by simp), if_neg (by decide), ← he]
  unfold gather_Put.body
  have hm : mx a 0 = a := by unfold mx; split <;> omega
  rw [hm, if_neg (by omega)]
  have hc : cutS [⟨a, e⟩] a e = [] := by
    unfold cutS
    rw [if_neg (by omega)]
    simp only [cutL, cut1, List.flatMap_cons, List.flatMap_nil]
    rw [if_neg (by split <;> omega), if_neg (by split <;> omega)]
    rfl
  have hA : addS [⟨a, e⟩] a e = [⟨a, e⟩] := ok_ext (addS_ok (ok_one (by show a < e; omega))).1 (ok_one (by show a < e; omega)) (fun n => by
    rw [(addS_ok (ok_one (s := ⟨a, e⟩) (by show a < e; omega))).2 n, mem_one]
    constructor
    · rintro (h | h) <;> exact h
    · exact fun h => .inl h)
  have hg : gather_Put.grow D (e - 0) = D := by
    unfold gather_Put.grow
    rw [if_neg (by omega)]
  unfold gather_Put.cuts
  rw [cut_eq (by simp), Option.bind_some, hc]
  unfold gather_Put.cuts
  rw [Option.bind_some, if_pos (by decide), hg]
  unfold gather_Put.lays
  rw [Option.bind_some, add_eq (by simp) (by simp; omega), Option.bind_some, hA]
theorem ready_one {D : List Int} {a e : Int} {k : Nat} (hk : 1 ≤ k) (he : 0 ≤ e ∧ e < 1048577) : gather_Ready.f k 0 [⟨a, e⟩] D false 0 = some (if a = 0 then e else 0) := by
  obtain ⟨k, rfl⟩ : ∃ j, k = j + 1 := ⟨k - 1, by omega⟩
  unfold gather_Ready.f
  have r : rd_T41 [(⟨a, e⟩ : Sp)] 0 = ⟨a, e⟩ := sp_rd (l := [(⟨a, e⟩ : Sp)]) (j := 0) (by simp)
  rw [if_neg (by simp), if_pos (by simp), r]
  by_cases c : a = 0
  · subst c
    rw [if_pos rfl]
    show (if (0 : Int) < (([(⟨0, e⟩ : Sp)].length : Nat) : Int) then some (wrap64 (IntKind.u64.wrap ((rd_T41 [(⟨0, e⟩ : Sp)] 0).f1 - 0))) else none) = _
    rw [if_pos (by simp), r]
    have : IntKind.u64.wrap (e - 0) = e := by rw [IntKind.wrap_u64]; omega
    show some (wrap64 (IntKind.u64.wrap (e - 0))) = _
    rw [this]
    have : wrap64 e = e := by unfold wrap64; omega
    rw [this]
  · rw [if_neg c]
    have : (a != 0) = true := bne_iff_ne.mpr c
    show gather_Ready.j0 (k + 1) (a != 0) _ _ _ _ _ = _
    rw [this]
    rfl
theorem read_one {K : List Sp} {D : List Int} {n t m : Int} {k : Nat} (hR : gather_Ready.f k 0 K D false 0 = some t) (hn : n = mx (mn m t) 0) (h0 : 0 ≤ n) (h1 : n ≤ (D.length : Int)) (hD : D.length < 1000000000) (hK : K.length < 1000000) : ∃ r, gather_Read.f k 0 K D false 0 m = some r ∧ (r.2.2.2.2.2.1.length : Int) = n ∧ r.2.2.2.2.2.2 = false := by
  unfold gather_Read.f
  rw [hR, Option.bind_some, ← hn, if_pos h0, if_pos h1, clone_u8 (by simp; omega), Option.bind_some, clone_u8 (by simp; omega), Option.bind_some, cut_eq hK, Option.bind_some, if_neg (by decide)]
  exact ⟨_, rfl, by simp; omega, rfl⟩
theorem same_loop {D : List Int} {a e : Int} (ha : 0 ≤ a) (hE : e ≤ 1048576) (hD : (D.length : Int) = e) (d : Nat) : ∀ (x : Int) (k : Nat), a ≤ x → x + d = e → 2 * d + 4 ≤ k → wigwagref17_Same.l1 k 0 x 0 [⟨a, e⟩] D false 0 0 [⟨a, e⟩] D false 0 = some true := by
  have r : rd_T41 [(⟨a, e⟩ : Sp)] 0 = ⟨a, e⟩ := sp_rd (l := [(⟨a, e⟩ : Sp)]) (j := 0) (by simp)
  induction d with
  | zero =>
    intro x k hx he hk
    obtain ⟨k, rfl⟩ : ∃ j, k = j + 2 := ⟨k - 2, by omega⟩
    unfold wigwagref17_Same.l1
    rw [if_pos (by decide), if_pos (by simp), r, if_neg (by show ¬ x < e; omega)]
    unfold wigwagref17_Same.l0
    have w : wrap64 ((0 : Int) + 1) = 1 := by unfold wrap64; omega
    rw [w, if_neg (by simp)]
  | succ d ih =>
    intro x k hx he hk
    obtain ⟨k, rfl⟩ : ∃ j, k = j + 2 := ⟨k - 2, by omega⟩
    unfold wigwagref17_Same.l1
    have w1 : IntKind.u64.wrap (x - 0) = x := by rw [IntKind.wrap_u64]; omega
    have w2 : IntKind.u64.wrap (D.length : Int) = (D.length : Int) := by rw [IntKind.wrap_u64]; omega
    have w3 : IntKind.u64.wrap (x + 1) = x + 1 := by rw [IntKind.wrap_u64]; omega
    rw [if_pos (by decide), if_pos (by simp), r, if_pos (by show x < e; omega), w1, w2, if_neg (by omega), if_neg (by omega), if_pos (by omega), if_pos (by omega), if_pos (by omega)]
    unfold wigwagref17_Same.j3
    rw [if_neg (by simp), w3]
    exact ih (x + 1) k (by omega) (by omega) (by omega)
theorem same_sp {s : Sp} {k : Nat} (hk : 2 ≤ k) : wigwagref07_Same.f k [s] [s] = some true := by
  obtain ⟨k, rfl⟩ : ∃ j, k = j + 2 := ⟨k - 2, by omega⟩
  have w : wrap64 ((0 : Int) + 1) = 1 := by unfold wrap64; omega
  unfold wigwagref07_Same.f
  rw [if_pos rfl]
  unfold wigwagref07_Same.l0
  rw [if_pos (by simp), if_pos (by decide), if_pos (by simp), if_neg (by simp), w]
  unfold wigwagref07_Same.l0
  rw [if_neg (by simp)]
theorem same_one {D : List Int} {a e : Int} {k : Nat} (ha : 0 ≤ a) (hae : a < e) (hE : e ≤ 1048576) (hD : (D.length : Int) = e) (hk : 2 * (e - a).toNat + 8 ≤ k) : wigwagref17_Same.f k 0 [⟨a, e⟩] D false 0 0 [⟨a, e⟩] D false 0 = some true := by
  obtain ⟨k, rfl⟩ : ∃ j, k = j + 2 := ⟨k - 2, by omega⟩
  have r : rd_T41 [(⟨a, e⟩ : Sp)] 0 = ⟨a, e⟩ := sp_rd (l := [(⟨a, e⟩ : Sp)]) (j := 0) (by simp)
  unfold wigwagref17_Same.f
  rw [same_sp (by omega), Option.bind_some, if_pos rfl, if_pos rfl, if_neg (by decide)]
  rw [wigwagref17_Same.j0, if_neg (by decide)]
  unfold wigwagref17_Same.l0
  rw [if_pos (by simp), if_pos (by decide), r]
  exact same_loop ha hE hD (e - a).toNat a k (by omega) (by omega) (by omega)
theorem GatherTwice : wigwaglaw17_GatherTwice.Pure := by
  intro l0 a1 a2 hl hs hx h1 h2
  have b1 := u16_bd h1
  refine ⟨1000, ?_⟩
  unfold wigwaglaw17_GatherTwice.f
  rw [show wigwaglaw17_awake.f = some true from rfl, Option.bind_some]
  by_cases c : (l0.length : Int) > 300
  · rw [if_pos c]
    rfl
  · rw [if_neg c]
    by_cases c0 : (l0.length : Int) = 0
    · rw [beq_iff_eq.mpr c0]
      rfl
    · rw [beq_eq_false_iff_ne.mpr c0]
      have w1 : IntKind.u64.wrap a1 = a1 := by rw [IntKind.wrap_u64]; omega
      rw [wigwaglaw17_GatherTwice.j0, if_neg (by decide), w1]
      obtain ⟨K, D, hp, hc⟩ := put0 (l := l0) (a := a1) (k := 999) (by decide) b1.1 (by omega)
      rcases hc with ⟨q, _, _⟩ | ⟨hq, rfl, hD⟩
      · exact absurd q (by omega)
      obtain ⟨e, he⟩ : ∃ e, e = a1 + (l0.length : Int) := ⟨_, rfl⟩
      rw [← he] at hp hD
      have hDl : (D.length : Int) = e := by
        rw [hD, splice_length _ _ _ (by have := seg_len l0 0 l0.length; simp only [List.length_replicate]; omega), List.length_replicate]
        omega
      have hR := ready_one (D := D) (a := a1) (e := e) (k := 999) (by decide) (by omega)
      have hR2 := ready_one (D := D) (a := a1) (e := e) (k := 998) (by decide) (by omega)
      obtain ⟨n, hn⟩ : ∃ n, n = mx (mn a2 (if a1 = 0 then e else 0)) 0 := ⟨_, rfl⟩
      have hn0 : 0 ≤ n := by rw [hn]; unfold mx; split <;> omega
      have hn1 : n ≤ e := by rw [hn]; unfold mx mn; split <;> split <;> split <;> omega
      obtain ⟨r, hr, hrl, hrb⟩ := read_one (k := 999) hR hn hn0 (by omega) (by omega) (by simp)
      rw [hp, Option.bind_some, put_again (by decide) b1.1 he hq (by omega) hDl, Option.bind_some, same_one b1.1 (by omega) (by omega) hDl (by omega), Option.bind_some, hr, Option.bind_some]
      have hj : ∀ m : Int, n = m → wigwaglaw17_GatherTwice.j1 999 true 0 0 true r.2.2.2.2.2.1 r.2.2.2.2.2.2 m 0 [⟨a1, e⟩] D false 0 0 [⟨a1, e⟩] D false 0 = some true := by
        intro m hm
        rw [wigwaglaw17_GatherTwice.j1, if_pos rfl, if_pos rfl, if_pos rfl, if_pos rfl, if_pos (by omega), hrb, if_neg (by decide), hR2, Option.bind_some, Option.bind_some]
        simp
      by_cases z : a1 = 0
      · rw [if_pos z]
        refine hj _ ?_
        rw [hn, if_pos z]
        unfold mx mn
        (repeat' split) <;> omega
      · rw [if_neg z]
        refine hj _ ?_
        rw [hn, if_neg z]
        unfold mx mn
        (repeat' split) <;> omega
end Go.Proofs.Ytndfddejdfnleaa.Pure
