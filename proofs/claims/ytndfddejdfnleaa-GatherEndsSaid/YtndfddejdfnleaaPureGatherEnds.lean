/- Behind a size that was told none but that is taken. -/
import Derived.Test.YtndfddejdfnleaaXa
import Derived.Test.YtndfddejdfnleaaPx13
namespace Go.Proofs.Ytndfddejdfnleaa.Pure
open Go.RowKit Go.Proofs.Ytndfddejdfnleaa.P Go.Proofs.YtndfddejdfnleaaW.PrintWords Go.Proofs.YtndfddejdfnleaaW.PrintLast
theorem ends_rest {K : List S41} {D : List Int} {hi a2 a3 : Int} (hH : ∀ b z, gather_High.f 0 K D b z = some hi) (hK : K.length < 1000) (hD : D.length < 1000000000) (h2 : 0 ≤ a2 ∧ a2 ≤ 65535) (h3 : 0 ≤ a3 ∧ a3 ≤ 65535) :
    ((gather_High.f 0 K D false 0).bind fun t197 => ((gather_Size.f 5 0 K D false 0 a2).bind fun bt198 => (if a2 < t197 then (if true = true then (if bt198.2.2.2.2.2 = 6 then (some (!bt198.2.2.2.1)) else (some false)) else (some false)) else ((gather_Size.f 5 bt198.1 bt198.2.1 bt198.2.2.1 bt198.2.2.2.1 bt198.2.2.2.2.1 a3).bind fun bt209 => ((gather_Put_err.f bt198.1 bt198.2.1 bt198.2.2.1 bt198.2.2.2.1 bt198.2.2.2.2.1 a2 (([1] : List Int)) false).bind fun bt223 => ((gather_Put.f 5 bt198.1 bt198.2.1 bt198.2.2.1 bt198.2.2.2.1 bt198.2.2.2.2.1 a2 ([] : List Int) true).bind fun bt234 => (if true = true then (if bt198.2.2.2.2.2 = 0 then (if bt198.2.2.2.1 = true then (if bt198.2.2.2.2.1 = a2 then (if ((bt209.2.2.2.2.2 == 0) == (a3 == a2)) = true then (if bt223.2.2.2.2.2 = 6 then (some (bt234.2.2.2.2.2 == 0)) else (some false)) else (some false)) else (some false)) else (some false)) else (some false)) else (some false)))))))) = some true := by
  rw [hH, Option.bind_some]
  have hO : ∀ n b z, gather_own.f n K D b z = some (n, K, D, b, z) := fun n b z => own_ok (by omega) hD n b z
  by_cases c : a2 < hi
  · have hs : gather_Size.f 5 0 K D false 0 a2 = some (0, K, D, false, 0, 6) := by
      unfold gather_Size.f
      rw [if_pos ⟨by omega, hD⟩]
      unfold gather_Size.g
      rw [if_neg (by decide), hH, Option.bind_some, decide_eq_true c]
      rfl
    rw [hs, Option.bind_some, if_pos c]
    rfl
  · have hs : gather_Size.f 5 0 K D false 0 a2 = some (0, K, D, true, a2, 0) := by
      unfold gather_Size.f
      rw [if_pos ⟨by omega, hD⟩]
      unfold gather_Size.g
      rw [if_neg (by decide), hH, Option.bind_some, decide_eq_false c]
      show ((gather_own.f 0 K D false 0).bind fun bt => some (bt.1, bt.2.1, bt.2.2.1, true, a2, (0 : Int))) = _
      rw [hO]
      rfl
    rw [hs, Option.bind_some, if_neg c]
    have hz : gather_Size.f 5 0 K D true a2 a3 = some (0, K, D, true, a2, 6) ∧ ¬ a3 = a2 ∨ gather_Size.f 5 0 K D true a2 a3 = some (0, K, D, true, a3, 0) ∧ a3 = a2 := by
      unfold gather_Size.f
      rw [if_pos ⟨by omega, hD⟩]
      unfold gather_Size.g
      rw [if_pos rfl]
      by_cases e : a2 = a3
      · right
        subst e
        rw [if_pos rfl, hH, Option.bind_some, decide_eq_false c]
        refine ⟨?_, rfl⟩
        show ((gather_own.f 0 K D true a2).bind fun bt => some (bt.1, bt.2.1, bt.2.2.1, true, a2, (0 : Int))) = _
        rw [hO]
        rfl
      · left
        rw [if_neg e]
        exact ⟨rfl, fun q => e q.symm⟩
    have he : gather_Put_err.f 0 K D true a2 a2 [1] false = some (0, K, D, true, a2, 6) := by
      unfold gather_Put_err.f
      rw [if_pos ⟨h2.1, by show a2 + ((1 : Nat) : Int) ≤ 1048576; omega, by omega, hD, rfl, by show a2 < a2 + ((1 : Nat) : Int); omega, rfl⟩]
    have hp : gather_Put.f 5 0 K D true a2 a2 [] true = some (0, K, D, true, a2, 0) := by
      have z0 : a2 + ((([] : List Int).length : Nat) : Int) = a2 := by show a2 + ((0 : Nat) : Int) = a2; omega
      unfold gather_Put.f
      rw [z0, if_pos ⟨by decide, by decide, h2.1, by omega, by omega, hD⟩, if_neg (by omega), if_pos rfl, hH, Option.bind_some, if_neg (by omega)]
      unfold gather_Put.body
      rw [if_pos (by unfold mx; split <;> omega)]
    show ((gather_Size.f 5 0 K D true a2 a3).bind fun bt209 => ((gather_Put_err.f 0 K D true a2 a2 [1] false).bind fun bt223 => ((gather_Put.f 5 0 K D true a2 a2 [] true).bind fun bt234 => (if true = true then (if (0 : Int) = 0 then (if true = true then (if a2 = a2 then (if ((bt209.2.2.2.2.2 == 0) == (a3 == a2)) = true then (if bt223.2.2.2.2.2 = 6 then (some (bt234.2.2.2.2.2 == 0)) else (some false)) else (some false)) else (some false)) else (some false)) else (some false)) else (some false))))) = some true
    rw [he, hp]
    rcases hz with ⟨hz, hn⟩ | ⟨hz, hn⟩
    · rw [hz, Option.bind_some, Option.bind_some, Option.bind_some]
      simp [hn]
    · rw [hz, Option.bind_some, Option.bind_some, Option.bind_some]
      simp [hn]
theorem GatherEnds : wigwaglaw17_GatherEnds.Pure := by
  intro l0 a1 a2 a3 hl hs hx h1 h2 h3
  have b1 := u16_bd h1
  have b2 := u16_bd h2
  have b3 := u16_bd h3
  refine ⟨5, ?_⟩
  unfold wigwaglaw17_GatherEnds.f
  rw [show wigwaglaw17_awake.f = some true from rfl, Option.bind_some]
  by_cases c : (l0.length : Int) > 300
  · rw [if_pos c]
  · rw [if_neg c]
    have w1 : IntKind.u64.wrap a1 = a1 := by rw [IntKind.wrap_u64]; omega
    have w2 : IntKind.u64.wrap a2 = a2 := by rw [IntKind.wrap_u64]; omega
    have w3 : IntKind.u64.wrap a3 = a3 := by rw [IntKind.wrap_u64]; omega
    rw [w1, w2, w3]
    obtain ⟨K, D, hp, hc⟩ := put0 (l := l0) (a := a1) (k := 5) (by decide) b1.1 (by omega)
    rw [hp, Option.bind_some, if_pos rfl]
    rcases hc with ⟨_, rfl, rfl⟩ | ⟨hq, rfl, hD⟩
    · exact ends_rest (hi := 0) (fun b z => high_nil _ _ _ _) (by decide) (by decide) b2 b3
    · refine ends_rest (hi := a1 + (l0.length : Int)) (fun b z => high_one _ _ _ _ _) (by simp) ?_ b2 b3
      rw [hD, splice_length _ _ _ (by have := seg_len l0 0 l0.length; simp only [List.length_replicate]; omega), List.length_replicate]
      omega
end Go.Proofs.Ytndfddejdfnleaa.Pure
