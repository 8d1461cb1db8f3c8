/- What is finished stays so; a slow start is careful for at most five rounds in a row; its least time of a round is that of its samples. No condition. -/
import Derived.Test.YthclohjlbajclaaXa
import Derived.Test.YthclohjlbajclaaStmHystartEnds
namespace Go.Proofs.Ythclohjlbajclaa.Pure
open Go.RowKit Go.Proofs.Ythclohjlbajclaa.P Go.Proofs.YthclohjlbajclaaW.PrintWords Go.Proofs.YthclohjlbajclaaW.PrintLast
set_option linter.unusedSimpArgs false
set_option linter.unusedVariables false
theorem ends_rd {l : List S33} (hw : ∀ x ∈ l, P.hystartEnds.WF33 x) {i : Int} (h0 : 0 ≤ i) (h1 : i < (l.length : Int)) : P.hystartEnds.WF33 (rd_T33 l i) := by
  unfold rd_T33
  rw [List.getD_eq_getElem?_getD, List.getElem?_eq_getElem (by omega)]
  exact hw _ (List.getElem_mem _)
theorem ends_up {i : Int} (h0 : 0 ≤ i) (h1 : i < 200) : wrap64 (i + 1) = i + 1 := by unfold wrap64; omega
/-- What is known of a slow start: its numbers are words; where it isn't finished, it was careful for at most four rounds, and its least time is the given one. -/
structure Good (low : Int) (s : T7) : Prop where
  p : s.1 = 0 ∨ s.1 = 1 ∨ s.1 = 2
  e : Wd s.2.1
  lm : Wd s.2.2.1
  nm : Wd s.2.2.2.1
  ct : Wd s.2.2.2.2.1
  bs : Wd s.2.2.2.2.2.1
  rn : 0 ≤ s.2.2.2.2.2.2 ∧ s.2.2.2.2.2.2 ≤ 5
  go : s.1 ≠ 2 → s.2.2.2.2.2.2 ≤ 4 ∧ s.2.2.2.1 = low
theorem st3_good {low : Int} {b : Bool} {p e lm nm ct bs rn : Int} (h : Good low (p, e, lm, nm, ct, bs, rn)) (h2 : p ≠ 2) : Good low (st3 b p e lm nm ct bs rn) ∧ (st3 b p e lm nm ct bs rn).1 ≠ 2 := by
  have hg := h.go h2
  have hr := h.rn
  unfold st3
  split
  · exact ⟨⟨.inr (.inl rfl), h.e, h.lm, h.nm, h.ct, h.nm, ⟨by show (0:Int) ≤ 0; omega, by show (0:Int) ≤ 5; omega⟩, fun _ => ⟨by show (0:Int) ≤ 4; omega, hg.2⟩⟩, by show (1:Int) ≠ 2; omega⟩
  · split
    · split
      · exact ⟨⟨.inl rfl, h.e, h.lm, h.nm, h.ct, top_wd, hr, fun _ => hg⟩, by show (0:Int) ≠ 2; omega⟩
      · exact ⟨h, h2⟩
    · exact ⟨h, h2⟩
theorem st2_good {low : Int} {b : Bool} {p e lm nm ct bs rn : Int} (h : Good low (p, e, lm, nm, ct, bs, rn)) (h2 : p ≠ 2) : Good low (st2 b p e lm nm ct bs rn) ∧ (st2 b p e lm nm ct bs rn).1 ≠ 2 := by
  unfold st2
  split
  · exact ⟨h, h2⟩
  · exact st3_good h h2
theorem st1_good {low took : Int} {p e lm nm ct bs rn : Int} (h : Good low (p, e, lm, nm, ct, bs, rn)) (ht : Wd took) (h2 : p ≠ 2) : Good (min low took) (st1 took p e lm nm ct bs rn) ∧ (st1 took p e lm nm ct bs rn).1 ≠ 2 := by
  have hg := h.go h2
  unfold st1
  rw [if_neg h2]
  exact st2_good ⟨h.p, h.e, h.lm, min_wd h.nm ht, sadd_wd h.ct one_wd, h.bs, h.rn, fun _ => ⟨hg.1, by show min nm took = min low took; rw [show nm = low from hg.2]⟩⟩ h2
/-- One answer more: behind a slow start that isn't finished. -/
theorem samp_good {low number next took : Int} {p e lm nm ct bs rn : Int} (h : Good low (p, e, lm, nm, ct, bs, rn)) (hx : Wd next) (ht : Wd took) (h2 : p ≠ 2) :
    Good (min (if number ≥ e then 18446744073709551615 else low) took) (samp p e lm nm ct bs rn number next took) ∧ ((samp p e lm nm ct bs rn number next took).1 = 2 → rn = 4) := by
  have hg := h.go h2
  have hp := h.p
  have hr := h.rn
  simp only at hp hr hg
  unfold samp
  rw [show (p == 2) = false by simpa using h2]
  by_cases he : number ≥ e
  · rw [if_pos he, show (!false && decide (number ≥ e)) = true by simpa using he]
    unfold st0
    rw [if_pos rfl]
    have base : ∀ p' rn' : Int, (p' = 0 ∨ p' = 1 ∨ p' = 2) → 0 ≤ rn' → rn' ≤ 5 → (p' ≠ 2 → rn' ≤ 4) → Good 18446744073709551615 (p', next, nm, 18446744073709551615, 0, bs, rn') :=
      fun p' rn' a b c d => ⟨a, hx, h.nm, top_wd, zero_wd, h.bs, ⟨b, c⟩, fun q => ⟨d q, rfl⟩⟩
    have hs : sadd rn 1 = rn + 1 := by unfold sadd; rw [if_pos (by omega)]
    by_cases h1 : p = 1
    · rw [if_pos h1, hs]
      by_cases h5 : rn + 1 = 5
      · rw [if_pos h5]
        refine ⟨?_, fun _ => by omega⟩
        unfold st1
        rw [if_pos rfl]
        exact ⟨.inr (.inr rfl), hx, h.nm, top_wd, zero_wd, h.bs, ⟨by show (0:Int) ≤ rn + 1; omega, by show rn + 1 ≤ (5:Int); omega⟩, fun q => absurd rfl q⟩
      · rw [if_neg h5]
        have := st1_good (base p (rn + 1) (by omega) (by omega) (by omega) (fun _ => by omega)) ht h2
        exact ⟨this.1, fun q => absurd q this.2⟩
    · rw [if_neg h1]
      have := st1_good (base p rn hp hr.1 hr.2 (fun _ => hg.1)) ht h2
      exact ⟨this.1, fun q => absurd q this.2⟩
  · rw [if_neg he, show (!false && decide (number ≥ e)) = false by simpa using he]
    unfold st0
    rw [if_neg (by simp)]
    have := st1_good h ht h2
    exact ⟨this.1, fun q => absurd q this.2⟩
theorem samp_done (e lm nm ct bs rn number next took : Int) : samp 2 e lm nm ct bs rn number next took = (2, e, lm, nm, ct, bs, rn) := by
  unfold samp st0 st1
  simp
theorem ends_loop (l : List S33) (hw : ∀ x ∈ l, P.hystartEnds.WF33 x) (d : Nat) : ∀ (k : Nat) (i low : Int) (s : T7), 0 ≤ i → i ≤ 200 → (200 - i).toNat = d → 4 * d + 10 ≤ k → Wd low → Good low s →
    wigwaglaw11_HystartEnds.l0 k l true low i s.1 s.2.1 s.2.2.1 s.2.2.2.1 s.2.2.2.2.1 s.2.2.2.2.2.1 s.2.2.2.2.2.2 = some true := by
  induction d with
  | zero =>
    intro k i low s h0 h1 hd hk hlow hs
    obtain ⟨k, rfl⟩ : ∃ m, k = m + 2 := ⟨k - 2, by omega⟩
    simp only [wigwaglaw11_HystartEnds.l0, wigwaglaw11_HystartEnds.j1]
    rw [show decide (i < 200) = false by simp; omega]
    split <;> rfl
  | succ d ih =>
    intro k i low s h0 h1 hd hk hlow hs
    obtain ⟨p, e, lm, nm, ct, bs, rn⟩ := s
    have hrn : Wd rn := ⟨hs.rn.1, by have := hs.rn.2; simp only at this; omega⟩
    by_cases hl : i < (l.length : Int)
    · have hi : i < 200 := by omega
      obtain ⟨w0, w1, w2⟩ := ends_rd hw h0 hl
      have w0 := wd_of w0; have w1 := wd_of w1; have w2 := wd_of w2
      obtain ⟨k, rfl⟩ : ∃ m, k = m + 4 + 4 := ⟨k - 8, by omega⟩
      simp only [wigwaglaw11_HystartEnds.l0, wigwaglaw11_HystartEnds.j1]
      rw [if_pos hl, show decide (i < 200) = true by simpa using hi, if_pos rfl, if_pos h0, if_pos hl, sample_eq (k + 2) _ _ _ _ _ _ _ _ _ _ hs.lm hs.nm hs.ct hrn]
      simp only [Option.bind_some]
      by_cases h2 : p = 2
      · subst h2
        rw [if_pos rfl, samp_done]
        rw [if_neg (by simp), ends_up h0 hi]
        exact ih (k + 4 + 2) (i + 1) low (2, e, lm, nm, ct, bs, rn) (by omega) (by omega) (by omega) (by omega) hlow hs
      · rw [if_neg h2]
        obtain ⟨hg, h4⟩ := samp_good (number := (rd_T33 l i).f0) hs w1 w2 h2
        generalize hT : samp p e lm nm ct bs rn (rd_T33 l i).f0 (rd_T33 l i).f1 (rd_T33 l i).f2 = s' at hg h4
        have hlow' : Wd (min (if (rd_T33 l i).f0 ≥ e then 18446744073709551615 else low) (rd_T33 l i).f2) := min_wd (by split <;> first | exact top_wd | exact hlow) w2
        have key : ∀ low0 : Int, mn low0 (rd_T33 l i).f2 = min (if (rd_T33 l i).f0 ≥ e then 18446744073709551615 else low) (rd_T33 l i).f2 →
            wigwaglaw11_HystartEnds.j2 (k + 4 + 2) l true low0 i s'.1 s'.2.1 s'.2.2.1 s'.2.2.2.1 s'.2.2.2.2.1 s'.2.2.2.2.2.1 s'.2.2.2.2.2.2 p e lm nm ct bs rn = some true := by
          intro low0 hm
          generalize hL : min (if (rd_T33 l i).f0 ≥ e then 18446744073709551615 else low) (rd_T33 l i).f2 = low' at hm hg hlow'
          have hih := ih (k + 4) (i + 1) low' s' (by omega) (by omega) (by omega) (by omega) hlow' hg
          have hr5 := hg.rn
          have hp5 := hg.p
          simp only [wigwaglaw11_HystartEnds.j2, wigwaglaw11_HystartEnds.j3]
          rw [if_pos h0, if_pos hl, hm]
          by_cases q2 : s'.1 = 2
          · rw [if_pos q2, if_neg (by omega), if_neg (by omega), show decide (s'.1 > 2) = false by simp; omega, if_neg (by simp), if_pos q2, if_pos (h4 q2), ends_up h0 hi]
            exact hih
          · rw [if_neg q2, if_pos (hg.go q2).2, if_neg (by omega), if_neg (by omega), show decide (s'.1 > 2) = false by simp; omega, if_neg (by simp), if_neg q2, ends_up h0 hi]
            exact hih
        by_cases he : (rd_T33 l i).f0 ≥ e
        · rw [if_pos he]
          exact key _ (by rw [if_pos he, mn_eq])
        · rw [if_neg he]
          exact key _ (by rw [if_neg he, mn_eq])
    · obtain ⟨k, rfl⟩ : ∃ m, k = m + 2 := ⟨k - 2, by omega⟩
      simp only [wigwaglaw11_HystartEnds.l0, wigwaglaw11_HystartEnds.j1]
      rw [if_neg hl]
      rfl
theorem HystartEnds : wigwaglaw11_HystartEnds.Pure := by
  intro a l ha hl hw
  have ha := wd_of ha
  refine ⟨900, ?_⟩
  unfold wigwaglaw11_HystartEnds.f
  rw [awake_eq 900 (by omega)]
  simp only [hystart_New.f, Option.bind_some]
  exact ends_loop l hw 200 900 0 18446744073709551615 (0, a, 18446744073709551615, 18446744073709551615, 0, 18446744073709551615, 0) (by omega) (by omega) (by omega) (by omega) top_wd
    ⟨.inl rfl, ha, top_wd, top_wd, zero_wd, top_wd, ⟨by show (0:Int) ≤ 0; omega, by show (0:Int) ≤ 5; omega⟩, fun _ => ⟨by show (0:Int) ≤ 4; omega, rfl⟩⟩
end Go.Proofs.Ythclohjlbajclaa.Pure
