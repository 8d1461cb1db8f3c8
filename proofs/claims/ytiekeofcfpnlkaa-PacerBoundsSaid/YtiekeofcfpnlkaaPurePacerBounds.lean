/- What is taken between a beginning and any end is at most the burst and the rate's bytes of the time between them. No condition. -/
import Derived.Test.YtiekeofcfpnlkaaXa
import Derived.Test.YtiekeofcfpnlkaaPx5
namespace Go.Proofs.Ytiekeofcfpnlkaa.Pure
open Go.RowKit Go.Proofs.Ytiekeofcfpnlkaa.P Go.Proofs.YtiekeofcfpnlkaaW.PrintWords Go.Proofs.YtiekeofcfpnlkaaW.PrintLast
set_option linter.unusedVariables false
theorem bounds_fill {burst rate now l tok rest sum : Int} (hb : 0 ≤ burst ∧ burst < 4294967296) (hr : 0 ≤ rate ∧ rate < 4294967296) (hn : 0 ≤ now ∧ now ≤ 6553600) (hl : 0 ≤ l ∧ l < 65536) (ht : 0 ≤ tok ∧ tok ≤ burst) (hq : 0 ≤ rest ∧ rest ≤ 999)
    (hi : sum * 1000 + tok * 1000 + rest ≤ burst * 1000 + rate * now) :
    ∃ tok' rest', fill now tok rest (now + l) rate burst = (now + l, tok', rest') ∧ 0 ≤ tok' ∧ tok' ≤ burst ∧ 0 ≤ rest' ∧ rest' ≤ 999 ∧ sum * 1000 + tok' * 1000 + rest' ≤ burst * 1000 + rate * (now + l) := by
  have hm : rate * (now + l) = rate * now + rate * l := Int.mul_add _ _ _
  have hp0 : 0 ≤ rate * l := Int.mul_nonneg hr.1 hl.1
  have hp1 : rate * l ≤ 4294967296 * 65536 := Int.mul_le_mul (by omega) (by omega) hl.1 (by omega)
  unfold fill
  by_cases h : now + l ≤ now
  · obtain rfl : l = 0 := by omega
    rw [if_pos h]
    exact ⟨tok, rest, by rw [Int.add_zero], ht.1, ht.2, hq.1, hq.2, by rw [hm]; omega⟩
  · rw [if_neg h, hm, show now + l - now = l by omega]
    have e1 : smul rate l = rate * l := by unfold smul; rw [if_pos (by omega)]
    rw [e1]
    generalize rate * l = p at hp0 hp1 hm
    generalize rate * now = p0 at hi hm
    have e2 : sadd rest p = rest + p := by unfold sadd; rw [if_pos (by omega)]
    rw [e2]
    have e3 : sadd tok ((rest + p) / 1000) = tok + (rest + p) / 1000 := by unfold sadd; rw [if_pos (by omega)]
    rw [e3]
    by_cases hf : tok + (rest + p) / 1000 ≥ burst
    · rw [if_pos hf]
      exact ⟨burst, 0, rfl, hb.1, by omega, by omega, by omega, by omega⟩
    · rw [if_neg hf]
      exact ⟨_, _, rfl, by omega, by omega, by omega, by omega, by omega⟩
theorem bounds_loop (burst rate : Int) (hb : 0 ≤ burst ∧ burst < 4294967296) (hr : 0 ≤ rate ∧ rate < 4294967296) (l2 l3 : List Int) (h2 : ∀ x ∈ l2, (Lit.int .u16 x).wf = true) (h3 : ∀ x ∈ l3, (Lit.int .u16 x).wf = true) (d : Nat) :
    ∀ (k : Nat) (i now sum tok rest : Int), 0 ≤ i → i ≤ 100 → (100 - i).toNat = d → 2 * d + 2 ≤ k → 0 ≤ now → now ≤ i * 65536 → 0 ≤ sum → sum ≤ i * 65536 → 0 ≤ tok → tok ≤ burst → 0 ≤ rest → rest ≤ 999 → sum * 1000 + tok * 1000 + rest ≤ burst * 1000 + rate * now →
    wigwaglaw16_PacerBounds.l0 k burst rate l2 l3 true now sum i now tok rest = some true := by
  induction d with
  | zero =>
    intro k i now sum tok rest i0 i1 hd hk _ _ _ _ _ _ _ _ _
    obtain ⟨k, rfl⟩ : ∃ m, k = m + 2 := ⟨k - 2, by omega⟩
    simp only [wigwaglaw16_PacerBounds.l0, wigwaglaw16_PacerBounds.j1]
    rw [show decide (i < 100) = false by simp; omega]
    split
    · split <;> rfl
    · rfl
  | succ d ih =>
    intro k i now sum tok rest i0 i1 hd hk n0 n1 s0 s1 t0 t1 r0 r1 hI
    obtain ⟨k, rfl⟩ : ∃ m, k = m + 2 := ⟨k - 2, by omega⟩
    simp only [wigwaglaw16_PacerBounds.l0, wigwaglaw16_PacerBounds.j1]
    by_cases hi : i < (l2.length : Int)
    · rw [if_pos hi]
      by_cases hi3 : i < (l3.length : Int)
      · rw [if_pos hi3, show decide (i < 100) = true by simp; omega, if_pos rfl, if_pos i0, if_pos hi]
        have hl := rd16 h2 i0 hi
        have ha := rd16 h3 i0 hi3
        generalize hq : rd l2 i = l at hl
        generalize hq3 : rd l3 i = ask at ha
        have wl : Wd l := ⟨hl.1, by omega⟩
        have wa : Wd ask := ⟨ha.1, by omega⟩
        have wn : Wd (now + l) := ⟨by omega, by omega⟩
        rw [wrapu_id wl, wrapu_id wn, wrapu_id (small hr), wrapu_id (small hb), fill_eq (show Wd now from ⟨n0, by omega⟩) (show Wd tok from ⟨t0, by omega⟩) (show Wd rest from ⟨r0, by omega⟩) wn (small hr)]
        simp only [Option.bind_some]
        obtain ⟨tok', rest', hf, a0, a1, b0, b1, hI'⟩ := bounds_fill (sum := sum) hb hr ⟨n0, by omega⟩ hl ⟨t0, t1⟩ ⟨r0, r1⟩ hI
        rw [hf, if_pos hi3, wrapu_id wa]
        simp only [pacer_Take.f]
        have hp0 : 0 ≤ rate * (now + l) := Int.mul_nonneg hr.1 (by omega)
        have hp1 : rate * (now + l) ≤ 4294967296 * 6619136 := Int.mul_le_mul (by omega) (by omega) (by omega) (by omega)
        have wp : Wd (rate * (now + l)) := ⟨hp0, by omega⟩
        rw [wrapu_id wp, show IntKind.u64.wrap (Int.tdiv (rate * (now + l)) 1000) = rate * (now + l) / 1000 from (thousand wp).1]
        have hup := up i0 (show i < 1000 by omega)
        by_cases ht : tok' < ask
        · rw [if_pos ht]
          simp only [Option.bind_some]
          rw [if_neg (by simp), hup]
          have goal := ih k (i + 1) (now + l) sum tok' rest' (by omega) (by omega) (by omega) (by omega) (by omega) (by omega) (by omega) (by omega) a0 a1 b0 b1 hI'
          generalize rate * (now + l) = p at hp0 hp1 hI'
          rw [wrapu_id (show Wd (burst + p / 1000) from ⟨by omega, by omega⟩), if_neg (by omega), if_neg (by omega), if_neg (by omega)]
          exact goal
        · rw [if_neg ht]
          simp only [Option.bind_some, if_true]
          have wsum : Wd (sum + ask) := ⟨by omega, by omega⟩
          have wt : Wd (tok' - ask) := ⟨by omega, by omega⟩
          rw [wrapu_id wsum, wrapu_id wt, hup]
          have goal := ih k (i + 1) (now + l) (sum + ask) (tok' - ask) rest' (by omega) (by omega) (by omega) (by omega) (by omega) (by omega) (by omega) (by omega) (by omega) (by omega) b0 b1 (by omega)
          generalize rate * (now + l) = p at hp0 hp1 hI'
          rw [wrapu_id (show Wd (burst + p / 1000) from ⟨by omega, by omega⟩), if_neg (by omega), if_neg (by omega), if_neg (by omega)]
          exact goal
      · rw [if_neg hi3]
        rfl
    · rw [if_neg hi]
      rfl
theorem PacerBounds : wigwaglaw16_PacerBounds.Pure := by
  intro burst rate l2 l3 hb hr _ _ h2 _ _ h3
  have hb := u32_of hb
  have hr := u32_of hr
  refine ⟨300, ?_⟩
  unfold wigwaglaw16_PacerBounds.f
  rw [awake_eq, wrapu_id (small hb)]
  simp only [Option.bind_some, pacer_New.f]
  exact bounds_loop burst rate hb hr l2 l3 h2 h3 100 300 0 0 0 burst 0 (by omega) (by omega) (by omega) (by omega) (by omega) (by omega) (by omega) (by omega) hb.1 (by omega) (by omega) (by omega) (by simp)
end Go.Proofs.Ytiekeofcfpnlkaa.Pure
