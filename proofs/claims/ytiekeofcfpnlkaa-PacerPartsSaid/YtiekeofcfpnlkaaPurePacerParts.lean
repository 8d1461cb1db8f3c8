/- A bucket that is filled at once, and one that is filled in parts, are the same, as long as neither is full. No condition. -/
import Derived.Test.YtiekeofcfpnlkaaXa
import Derived.Test.YtiekeofcfpnlkaaPx7
namespace Go.Proofs.Ytiekeofcfpnlkaa.Pure
open Go.RowKit Go.Proofs.Ytiekeofcfpnlkaa.P Go.Proofs.YtiekeofcfpnlkaaW.PrintWords Go.Proofs.YtiekeofcfpnlkaaW.PrintLast
set_option linter.unusedVariables false
theorem parts_fill {rate now l : Int} (hr : 0 ≤ rate ∧ rate < 4294967296) (hn : 0 ≤ now ∧ now ≤ 6553600) (hl : 0 ≤ l ∧ l < 6619136) :
    fill now (rate * now / 1000) (rate * now % 1000) (now + l) rate 9223372036854775808 = (now + l, rate * (now + l) / 1000, rate * (now + l) % 1000) := by
  have hm : rate * (now + l) = rate * now + rate * l := Int.mul_add _ _ _
  have hp0 : 0 ≤ rate * l := Int.mul_nonneg hr.1 hl.1
  have hp1 : rate * l ≤ 4294967296 * 6619136 := Int.mul_le_mul (by omega) (by omega) hl.1 (by omega)
  have hq0 : 0 ≤ rate * now := Int.mul_nonneg hr.1 hn.1
  have hq1 : rate * now ≤ 4294967296 * 6553600 := Int.mul_le_mul (by omega) hn.2 hn.1 (by omega)
  unfold fill
  by_cases h : now + l ≤ now
  · obtain rfl : l = 0 := by omega
    rw [if_pos h, Int.add_zero]
  · rw [if_neg h, hm, show now + l - now = l by omega]
    have e1 : smul rate l = rate * l := by unfold smul; rw [if_pos (by omega)]
    rw [e1]
    generalize rate * l = p at hp0 hp1 hm
    generalize rate * now = p0 at hq0 hq1 hm
    have e2 : sadd (p0 % 1000) p = p0 % 1000 + p := by unfold sadd; rw [if_pos (by omega)]
    rw [e2]
    have e3 : sadd (p0 / 1000) ((p0 % 1000 + p) / 1000) = p0 / 1000 + (p0 % 1000 + p) / 1000 := by unfold sadd; rw [if_pos (by omega)]
    rw [e3, if_neg (by omega)]
    congr 2 <;> omega
theorem parts_loop (rate : Int) (hr : 0 ≤ rate ∧ rate < 4294967296) (l1 : List Int) (h1 : ∀ x ∈ l1, (Lit.int .u16 x).wf = true) (d : Nat) :
    ∀ (k : Nat) (i now : Int), 0 ≤ i → i ≤ 50 → (50 - i).toNat = d → 2 * d + 2 ≤ k → 0 ≤ now → now ≤ i * 65536 →
    wigwaglaw16_PacerParts.l0 k rate l1 true now i now (rate * now / 1000) (rate * now % 1000) = some true := by
  have last : ∀ now : Int, 0 ≤ now → now ≤ 6553600 → ((pacer_Fill.f 0 0 0 now (IntKind.u64.wrap rate) 9223372036854775808).bind fun bt169 => (some (now == bt169.1 && (rate * now / 1000 == bt169.2.1 && (rate * now % 1000 == bt169.2.2))))) = some true := by
    intro now n0 n1
    have w0 : Wd 0 := ⟨by omega, by omega⟩
    rw [wrapu_id (small hr), fill_eq w0 w0 w0 ⟨n0, by omega⟩ (small hr)]
    have := parts_fill (rate := rate) (now := 0) (l := now) hr ⟨by omega, by omega⟩ ⟨n0, by omega⟩
    simp only [Int.mul_zero, Int.zero_add] at this
    rw [show (0 : Int) / 1000 = 0 by rfl, show (0 : Int) % 1000 = 0 by rfl] at this
    rw [this]
    simp
  induction d with
  | zero =>
    intro k i now i0 i1 hd hk n0 n1
    obtain ⟨k, rfl⟩ : ∃ m, k = m + 2 := ⟨k - 2, by omega⟩
    simp only [wigwaglaw16_PacerParts.l0, wigwaglaw16_PacerParts.j1]
    rw [show decide (i < 50) = false by simp; omega]
    have := last now n0 (by omega)
    split
    · rw [if_neg (by simp), if_pos trivial]; exact this
    · rw [if_neg (by simp), if_pos trivial]; exact this
  | succ d ih =>
    intro k i now i0 i1 hd hk n0 n1
    obtain ⟨k, rfl⟩ : ∃ m, k = m + 2 := ⟨k - 2, by omega⟩
    simp only [wigwaglaw16_PacerParts.l0, wigwaglaw16_PacerParts.j1]
    by_cases hi : i < (l1.length : Int)
    · rw [if_pos hi, show decide (i < 50) = true by simp; omega, if_pos rfl, if_pos i0, if_pos hi]
      have hl := rd16 h1 i0 hi
      generalize hq : rd l1 i = l at hl
      have wl : Wd l := ⟨hl.1, by omega⟩
      have wn : Wd (now + l) := ⟨by omega, by omega⟩
      have hq0 : 0 ≤ rate * now := Int.mul_nonneg hr.1 n0
      have hq1 : rate * now ≤ 4294967296 * 6553600 := Int.mul_le_mul (by omega) (by omega) n0 (by omega)
      rw [wrapu_id wl, wrapu_id wn, wrapu_id (small hr), fill_eq (show Wd now from ⟨n0, by omega⟩) (show Wd (rate * now / 1000) from ⟨by omega, by omega⟩) (show Wd (rate * now % 1000) from ⟨by omega, by omega⟩) wn (small hr), parts_fill hr ⟨n0, by omega⟩ ⟨hl.1, by omega⟩]
      simp only [Option.bind_some]
      rw [up i0 (by omega)]
      exact ih k (i + 1) (now + l) (by omega) (by omega) (by omega) (by omega) (by omega) (by omega)
    · rw [if_neg hi, if_neg (by simp), if_pos trivial]
      exact last now n0 (by omega)
theorem PacerParts : wigwaglaw16_PacerParts.Pure := by
  intro rate l1 hr _ _ h1
  have hr := u32_of hr
  refine ⟨200, ?_⟩
  unfold wigwaglaw16_PacerParts.f
  rw [awake_eq]
  simp only [Option.bind_some]
  have := parts_loop rate hr l1 h1 50 200 0 0 (by omega) (by omega) (by omega) (by omega) (by omega) (by omega)
  simpa using this
end Go.Proofs.Ytiekeofcfpnlkaa.Pure
