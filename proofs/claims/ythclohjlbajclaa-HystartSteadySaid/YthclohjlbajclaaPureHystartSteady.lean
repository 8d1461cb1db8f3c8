/- Where all answers take the same time a slow start goes on, however many rounds. No condition. -/
import Derived.Test.YthclohjlbajclaaXa
import Derived.Test.YthclohjlbajclaaPx10
namespace Go.Proofs.Ythclohjlbajclaa.Pure
open Go.RowKit Go.Proofs.Ythclohjlbajclaa.P Go.Proofs.YthclohjlbajclaaW.PrintWords Go.Proofs.YthclohjlbajclaaW.PrintLast
set_option linter.unusedSimpArgs false
set_option linter.unusedVariables false
theorem steady_up {i : Int} (h0 : 0 ≤ i) (h1 : i < 200) : wrap64 (i + 1) = i + 1 := by unfold wrap64; omega
theorem u8_of {x : Int} (h : (Lit.int .u8 x).wf = true) : 0 ≤ x ∧ x < 256 := by
  simp [Lit.wf, IntKind.min, IntKind.max, IntKind.signed, IntKind.bits] at h
  exact ⟨by omega, by omega⟩
/-- What is known: all times are the one, or none yet. -/
structure Flat (took : Int) (s : T7) : Prop where
  p : s.1 = 0
  lm : s.2.2.1 = took ∨ s.2.2.1 = 18446744073709551615
  nm : s.2.2.2.1 = took ∨ s.2.2.2.1 = 18446744073709551615
  ct : Wd s.2.2.2.2.1
  rn : s.2.2.2.2.2.2 = 0
theorem st1_flat {took e lm nm ct bs rn : Int} (ht : Wd took) (ht' : took ≠ 18446744073709551615) (h : Flat took (0, e, lm, nm, ct, bs, rn)) :
    Flat took (st1 took 0 e lm nm ct bs rn) ∧ (st1 took 0 e lm nm ct bs rn).2.2.2.1 = took := by
  obtain ⟨t0, t1⟩ := ht
  have hm : min nm took = took := by rcases h.nm with e | e <;> (simp only at e; omega)
  have hl := h.lm
  simp only at hl
  have hl8 : 4 ≤ lim8 lm := by unfold lim8; omega
  unfold st1 st2
  rw [if_neg (show ¬ (0 : Int) = 2 by omega), hm]
  have same : Flat took (0, e, lm, took, sadd ct 1, bs, rn) := ⟨rfl, hl, .inl rfl, sadd_wd h.ct one_wd, h.rn⟩
  split
  · exact ⟨same, rfl⟩
  · rename_i hb
    have hlm : lm = took := by
      rcases hl with q | q
      · exact q
      · exact absurd hb (by simp [q])
    unfold st3
    have : decide (took ≥ sadd lm (lim8 lm)) = false := by
      unfold sadd
      simp
      split <;> omega
    rw [this, if_neg (by simp), if_neg (show ¬ (0 : Int) = 1 by omega)]
    exact ⟨same, rfl⟩
theorem samp_flat {took e lm nm ct bs rn number next : Int} (ht : Wd took) (ht' : took ≠ 18446744073709551615) (h : Flat took (0, e, lm, nm, ct, bs, rn)) :
    Flat took (samp 0 e lm nm ct bs rn number next took) ∧ (samp 0 e lm nm ct bs rn number next took).2.2.2.1 = took := by
  unfold samp st0
  split
  · rw [if_neg (show ¬ (0 : Int) = 1 by omega)]
    exact st1_flat ht ht' ⟨rfl, h.nm, .inr rfl, zero_wd, h.rn⟩
  · exact st1_flat ht ht' h
theorem steady_loop (took : Int) (ht : Wd took) (ht' : took ≠ 18446744073709551615) (l : List Int) (hw : ∀ x ∈ l, (Lit.int .u8 x).wf = true) (d : Nat) : ∀ (k : Nat) (n i : Int) (s : T7), 0 ≤ i → i ≤ 200 → (200 - i).toNat = d → 2 * d + 10 ≤ k → Flat took s →
    wigwaglaw11_HystartSteady.l0 k took l true n i s.1 s.2.1 s.2.2.1 s.2.2.2.1 s.2.2.2.2.1 s.2.2.2.2.2.1 s.2.2.2.2.2.2 = some true := by
  induction d with
  | zero =>
    intro k n i s h0 h1 hd hk hs
    obtain ⟨k, rfl⟩ : ∃ m, k = m + 2 := ⟨k - 2, by omega⟩
    simp only [wigwaglaw11_HystartSteady.l0, wigwaglaw11_HystartSteady.j2]
    rw [show decide (i < 200) = false by simp; omega]
    split <;> rfl
  | succ d ih =>
    intro k n i s h0 h1 hd hk hs
    obtain ⟨p, e, lm, nm, ct, bs, rn⟩ := s
    obtain rfl : p = 0 := hs.p
    by_cases hl : i < (l.length : Int)
    · have hi : i < 200 := by omega
      obtain ⟨k, rfl⟩ : ∃ m, k = m + 4 + 2 := ⟨k - 6, by omega⟩
      have hlm : Wd lm := by rcases hs.lm with q | q <;> (simp only at q; rw [q]; first | exact ht | exact top_wd)
      have hnm : Wd nm := by rcases hs.nm with q | q <;> (simp only at q; rw [q]; first | exact ht | exact top_wd)
      have hrn : Wd rn := by have := hs.rn; simp only at this; rw [this]; exact zero_wd
      simp only [wigwaglaw11_HystartSteady.l0, wigwaglaw11_HystartSteady.j2]
      rw [if_pos hl, show decide (i < 200) = true by simpa using hi, if_pos rfl, if_pos h0, if_pos hl, sample_eq k _ _ _ _ _ _ _ _ _ _ hlm hnm hs.ct hrn]
      simp only [Option.bind_some]
      generalize IntKind.u64.wrap (n + Int.tmod (IntKind.u64.wrap (rd l i)) 3) = n'
      obtain ⟨f1, f2⟩ := samp_flat (number := n') (next := IntKind.u64.wrap (n' + Int.tmod (IntKind.u64.wrap (rd l i)) 9)) ht ht' hs
      rw [if_pos f1.p, if_pos f2, steady_up h0 hi]
      exact ih (k + 4) n' (i + 1) _ (by omega) (by omega) (by omega) (by omega) f1
    · obtain ⟨k, rfl⟩ : ∃ m, k = m + 2 := ⟨k - 2, by omega⟩
      simp only [wigwaglaw11_HystartSteady.l0, wigwaglaw11_HystartSteady.j2]
      rw [if_neg hl]
      rfl
theorem HystartSteady : wigwaglaw11_HystartSteady.Pure := by
  intro a took l ha ht hl hl2 hw
  have ht := wd_of ht
  refine ⟨600, ?_⟩
  unfold wigwaglaw11_HystartSteady.f
  rw [awake_eq 600 (by omega)]
  simp only [Option.bind_some]
  have main : ∀ b : Bool, (b = false → took ≠ 18446744073709551615) → wigwaglaw11_HystartSteady.j0 600 a took l true b = some true := by
    intro b hb
    simp only [wigwaglaw11_HystartSteady.j0]
    by_cases h : b = true
    · rw [if_pos h]
    · rw [if_neg h]
      simp only [hystart_New.f, Option.bind_some]
      exact steady_loop took ht (hb (by simpa using h)) l hw 200 599 a 0 (0, a, 18446744073709551615, 18446744073709551615, 0, 18446744073709551615, 0) (by omega) (by omega) (by omega) (by omega) ⟨rfl, .inr rfl, .inr rfl, zero_wd, rfl⟩
  split
  · exact main _ (by simp)
  · exact main _ (fun h => by simpa using h)
end Go.Proofs.Ythclohjlbajclaa.Pure
