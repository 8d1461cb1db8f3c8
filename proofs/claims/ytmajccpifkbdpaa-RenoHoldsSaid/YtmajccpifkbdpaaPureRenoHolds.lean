/- A window that began as it should stays within the least and the greatest, whatever comes; bytes that come never let it fall, nor losses rise. No condition. -/
import Derived.Test.YtmajccpifkbdpaaXa
import Derived.Test.YtmajccpifkbdpaaStmRenoHolds
namespace Go.Proofs.Ytmajccpifkbdpaa.Pure
open Go.RowKit Go.Proofs.Ytmajccpifkbdpaa.P Go.Proofs.YtmajccpifkbdpaaW.PrintWords Go.Proofs.YtmajccpifkbdpaaW.PrintLast
set_option linter.unusedVariables false
theorem holds_rd {l : List S34} (hw : ∀ x ∈ l, P.renoHolds.WF34 x) {i : Int} (h0 : 0 ≤ i) (h1 : i < (l.length : Int)) : P.renoHolds.WF34 (rd_T34 l i) := by
  unfold rd_T34
  rw [List.getD_eq_getElem?_getD, List.getElem?_eq_getElem (by omega)]
  exact hw _ (List.getElem_mem _)
structure Ok (s : R4) : Prop where
  c : 2400 ≤ s.1 ∧ s.1 ≤ 16777216
  th : 2400 ≤ s.2.1 ∧ s.2.1 ≤ 16777216
  re : Wd s.2.2.2
theorem held_in (x : Int) : 2400 ≤ held x ∧ held x ≤ 16777216 := by unfold held; omega
theorem sadd_ge {a b : Int} (ha : a ≤ 16777216) (hb : 0 ≤ b) : a ≤ sadd a b := by unfold sadd; split <;> omega
theorem ack_ok {c th si re bytes at_ : Int} {limited : Bool} (h : Ok (c, th, si, re)) (hb : Wd bytes) :
    Ok (ack c th si re bytes at_ limited) ∧ ¬ (ack c th si re bytes at_ limited).1 < c ∧ (ack c th si re bytes at_ limited).2.1 = th ∧ (ack c th si re bytes at_ limited).2.2.1 = si := by
  obtain ⟨⟨c0, c1⟩, ⟨t0, t1⟩, hr⟩ := h
  simp only at c0 c1 t0 t1 hr
  have up : ∀ x, 0 ≤ x → ¬ held (sadd c x) < c := by
    intro x hx
    have := sadd_ge c1 hx
    unfold held
    omega
  unfold ack
  split
  · exact ⟨⟨⟨c0, c1⟩, ⟨t0, t1⟩, hr⟩, by show ¬ c < c; omega, rfl, rfl⟩
  · split
    · exact ⟨⟨held_in _, ⟨t0, t1⟩, hr⟩, up _ hb.1, rfl, rfl⟩
    · have hs := sadd_wd hr (smul_wd hb w1200)
      generalize sadd re (smul bytes 1200) = s at hs
      have hm0 := Int.emod_nonneg s (show max c 1 ≠ 0 by omega)
      have hm1 := Int.emod_lt_of_pos s (show 0 < max c 1 by omega)
      exact ⟨⟨held_in _, ⟨t0, t1⟩, ⟨hm0, by show s % max c 1 < _; omega⟩⟩, up _ (Int.ediv_nonneg hs.1 (by omega)), rfl, rfl⟩
theorem loss_ok {c th si re at_ now : Int} (h : Ok (c, th, si, re)) : Ok (loss c th si re at_ now) ∧ ¬ (loss c th si re at_ now).1 > c := by
  obtain ⟨⟨c0, c1⟩, ⟨t0, t1⟩, hr⟩ := h
  simp only at c0 c1 t0 t1 hr
  unfold loss
  split
  · exact ⟨⟨⟨c0, c1⟩, ⟨t0, t1⟩, hr⟩, by show ¬ c > c; omega⟩
  · exact ⟨⟨held_in _, held_in _, zero_wd⟩, by show ¬ held (c / 2) > c; unfold held; omega⟩
theorem holds_loop (l : List S34) (hw : ∀ x ∈ l, P.renoHolds.WF34 x) (d : Nat) : ∀ (k : Nat) (i : Int) (s : R4), 0 ≤ i → i ≤ 200 → (200 - i).toNat = d → 3 * d + 6 ≤ k → Ok s →
    wigwaglaw10_RenoHolds.l0 k l true i s.1 s.2.1 s.2.2.1 s.2.2.2 = some true := by
  induction d with
  | zero =>
    intro k i s h0 h1 hd hk hs
    obtain ⟨k, rfl⟩ : ∃ m, k = m + 2 := ⟨k - 2, by omega⟩
    simp only [wigwaglaw10_RenoHolds.l0, wigwaglaw10_RenoHolds.j1]
    rw [show decide (i < 200) = false by simp; omega]
    by_cases hl : i < (l.length : Int)
    · rw [if_pos hl, if_neg (by simp)]
    · rw [if_neg hl, if_neg (by simp)]
  | succ d ih =>
    intro k i s h0 h1 hd hk hs
    obtain ⟨c, th, si, re⟩ := s
    by_cases hl : i < (l.length : Int)
    · have hi : i < 200 := by omega
      obtain ⟨w0, w1, w2, w3, _⟩ := holds_rd hw h0 hl
      have w1 := wd_of w1; have w2 := wd_of w2; have w3 := wd_of w3
      obtain ⟨k, rfl⟩ : ∃ m, k = m + 2 := ⟨k - 2, by omega⟩
      simp only [wigwaglaw10_RenoHolds.l0, wigwaglaw10_RenoHolds.j1]
      obtain ⟨k, rfl⟩ : ∃ m, k = m + 1 := ⟨k - 1, by omega⟩
      have c0 := hs.c; have t0 := hs.th; have r0 := hs.re
      simp only at c0 t0 r0
      have wc : Wd c := ⟨by omega, by omega⟩
      have hup := up h0 (show i < 1000 by omega)
      rw [if_pos hl, show decide (i < 200) = true by simpa using hi, if_pos rfl, if_pos h0, if_pos hl]
      by_cases q1 : (rd_T34 l i).f0 = 1
      · rw [if_pos q1, ack_eq k wc r0 w1]
        simp only [Option.bind_some]
        obtain ⟨g, g1, g2, g3⟩ := ack_ok (at_ := (rd_T34 l i).f2) (limited := (rd_T34 l i).f4) hs w1
        have gc := g.c; have gt := g.th
        have nxt := ih k (i + 1) _ (by omega) (by omega) (by omega) (by omega) g
        generalize ack c th si re (rd_T34 l i).f1 (rd_T34 l i).f2 (rd_T34 l i).f4 = s' at g g1 g2 g3 gc gt nxt
        rw [if_neg g1, if_pos g2, g3]
        simp only [wigwaglaw10_RenoHolds.j2]
        rw [if_neg (by simp), if_neg (by omega), if_neg (by omega), if_neg (by omega), if_neg (by omega), hup, ← g3]
        exact nxt
      · rw [if_neg q1]
        by_cases q2 : (rd_T34 l i).f0 = 2
        · rw [if_pos q2, loss_eq wc w3]
          simp only [Option.bind_some]
          obtain ⟨g, g1⟩ := loss_ok (at_ := (rd_T34 l i).f2) (now := (rd_T34 l i).f3) hs
          have gc := g.c; have gt := g.th
          have nxt := ih (k + 1) (i + 1) _ (by omega) (by omega) (by omega) (by omega) g
          generalize loss c th si re (rd_T34 l i).f2 (rd_T34 l i).f3 = s' at g g1 gc gt nxt
          rw [if_neg g1, if_neg (by omega), if_neg (by omega), if_neg (by omega), if_neg (by omega), hup]
          exact nxt
        · rw [if_neg q2]
          by_cases q3 : (rd_T34 l i).f0 = 3
          · rw [if_pos q3]
            simp only [reno_Collapse.f, Option.bind_some]
            rw [if_neg (by omega), if_neg (by omega), if_neg (by omega), if_neg (by omega), hup]
            exact ih (k + 1) (i + 1) (2400, th, 0, 0) (by omega) (by omega) (by omega) (by omega) ⟨by show (2400:Int) ≤ 2400 ∧ (2400:Int) ≤ 16777216; omega, t0, zero_wd⟩
          · rw [if_neg q3, if_neg (by omega), if_neg (by omega), if_neg (by omega), if_neg (by omega), hup]
            exact ih (k + 1) (i + 1) (c, th, si, re) (by omega) (by omega) (by omega) (by omega) hs
    · obtain ⟨k, rfl⟩ : ∃ m, k = m + 2 := ⟨k - 2, by omega⟩
      simp only [wigwaglaw10_RenoHolds.l0, wigwaglaw10_RenoHolds.j1]
      rw [if_neg hl]
      rfl
theorem RenoHolds : wigwaglaw10_RenoHolds.Pure := by
  intro l hl hw
  refine ⟨700, ?_⟩
  unfold wigwaglaw10_RenoHolds.f
  rw [awake_eq 700 (by omega)]
  simp only [reno_New.f, Option.bind_some]
  exact holds_loop l hw 200 700 0 (12000, 16777216, 0, 0) (by omega) (by omega) (by omega) (by omega) ⟨by show (2400:Int) ≤ 12000 ∧ (12000:Int) ≤ 16777216; omega, by show (2400:Int) ≤ 16777216 ∧ (16777216:Int) ≤ 16777216; omega, zero_wd⟩
end Go.Proofs.Ytmajccpifkbdpaa.Pure
