/- The arithmetic of layer 11: a slow start behind a time that an answer took, as a plain function; the program's and the reference's are it. -/
import Derived.Test.YthclohjlbajclaaPx11
import Derived.Test.YthclohjlbajclaaPx12
import Derived.Test.YthclohjlbajclaaPx13
import Derived.Test.YthclohjlbajclaaPx2
import Derived.Test.YthclohjlbajclaaPx3
import Derived.Test.YthclohjlbajclaaPx4
import Derived.Test.YthclohjlbajclaaPx5
namespace Go.Proofs.Ythclohjlbajclaa.Pure
open Go.RowKit Go.Proofs.Ythclohjlbajclaa.P Go.Proofs.YthclohjlbajclaaW.PrintWords Go.Proofs.YthclohjlbajclaaW.PrintLast Go.Proofs.YthclohjlbajclaaW.PrintMore
/-- A word: a number of 64 bits without a sign. -/
def Wd (x : Int) : Prop := 0 ≤ x ∧ x < 18446744073709551616
theorem wd_of {x : Int} (h : (Lit.int .u64 x).wf = true) : Wd x := by
  simp [Lit.wf, IntKind.min, IntKind.max, IntKind.signed, IntKind.bits] at h
  exact ⟨by omega, by omega⟩
def sadd (a b : Int) : Int := if a + b < 18446744073709551616 then a + b else 18446744073709551615
def ssub (a b : Int) : Int := if a < b then 0 else a - b
theorem wrapu (x : Int) : IntKind.u64.wrap x = x % 18446744073709551616 := IntKind.wrap_u64 x
theorem wrapu_id {x : Int} (h : Wd x) : IntKind.u64.wrap x = x := by rw [wrapu]; obtain ⟨_, _⟩ := h; omega
theorem sadd_wd {a b : Int} (ha : Wd a) (hb : Wd b) : Wd (sadd a b) := by
  obtain ⟨_, _⟩ := ha; obtain ⟨_, _⟩ := hb; unfold sadd Wd; split <;> omega
theorem ssub_wd {a b : Int} (ha : Wd a) (hb : Wd b) : Wd (ssub a b) := by
  obtain ⟨_, _⟩ := ha; obtain ⟨_, _⟩ := hb; unfold ssub Wd; split <;> omega
theorem tdiv_pos {x : Int} (h : 0 ≤ x) (k : Nat) : Int.tdiv x (k : Int) = x / (k : Int) := Int.tdiv_eq_ediv_of_nonneg h
theorem mx_eq (a b : Int) : mx a b = max a b := by unfold mx; omega
theorem mn_eq (a b : Int) : mn a b = min a b := by unfold mn; omega
theorem add_eq {a b : Int} (ha : Wd a) (hb : Wd b) : fix_Add.f a b = some (sadd a b) := by
  unfold fix_Add.f sadd
  rw [if_pos ha.1, if_pos hb.1]
  split <;> rfl
theorem radd_eq {a b : Int} (ha : Wd a) (hb : Wd b) : wigwagref01_Add.f a b = some (sadd a b) := by
  obtain ⟨_, _⟩ := ha; obtain ⟨_, _⟩ := hb
  unfold wigwagref01_Add.f sadd
  rw [wrapu, wrapu]
  (repeat' split) <;> first | rfl | (congr 1; omega) | omega
abbrev T7 := Int × Int × Int × Int × Int × Int × Int
def st3 (b : Bool) (p e lm nm ct bs rn : Int) : T7 := if b = true then (1, e, lm, nm, ct, nm, 0) else (if p = 1 then (if nm < bs then (0, e, lm, nm, ct, 18446744073709551615, rn) else (p, e, lm, nm, ct, bs, rn)) else (p, e, lm, nm, ct, bs, rn))
def lim8 (lm : Int) : Int := min (max (lm / 8) 4) 16
def st2 (b : Bool) (p e lm nm ct bs rn : Int) : T7 := if b = true then (p, e, lm, nm, ct, bs, rn) else st3 (p == 0 && decide (nm ≥ sadd lm (lim8 lm))) p e lm nm ct bs rn
def st1 (took p e lm nm ct bs rn : Int) : T7 := if p = 2 then (p, e, lm, nm, ct, bs, rn) else st2 (decide (sadd ct 1 < 8) || (min nm took == 18446744073709551615 || lm == 18446744073709551615)) p e lm (min nm took) (sadd ct 1) bs rn
def st0 (next took : Int) (b : Bool) (p e lm nm ct bs rn : Int) : T7 :=
  if b = true then (if p = 1 then (if sadd rn 1 = 5 then st1 took 2 next nm 18446744073709551615 0 bs (sadd rn 1) else st1 took p next nm 18446744073709551615 0 bs (sadd rn 1)) else st1 took p next nm 18446744073709551615 0 bs rn) else st1 took p e lm nm ct bs rn
/-- A slow start behind a time that an answer took. -/
def samp (p e lm nm ct bs rn number next took : Int) : T7 := st0 next took (!(p == 2) && decide (number ≥ e)) p e lm nm ct bs rn
theorem eighth {d : Int} (hd : Wd d) : IntKind.u64.wrap (Int.tdiv d 8) = d / 8 := by
  obtain ⟨h0, h1⟩ := hd
  rw [wrapu, show Int.tdiv d 8 = d / 8 from tdiv_pos h0 8]
  omega
theorem quarter {d : Int} (hd : Wd d) : IntKind.u64.wrap (Int.tdiv d 4) = d / 4 := by
  obtain ⟨h0, h1⟩ := hd
  rw [wrapu, show Int.tdiv d 4 = d / 4 from tdiv_pos h0 4]
  omega
theorem lim8_wd {d : Int} (hd : Wd d) : Wd (lim8 d) := by
  obtain ⟨h0, h1⟩ := hd
  unfold lim8
  exact ⟨by omega, by omega⟩
theorem min_wd {a b : Int} (ha : Wd a) (hb : Wd b) : Wd (min a b) := by
  obtain ⟨_, _⟩ := ha; obtain ⟨_, _⟩ := hb; exact ⟨by omega, by omega⟩
theorem one_wd : Wd 1 := ⟨by omega, by omega⟩
theorem zero_wd : Wd 0 := ⟨by omega, by omega⟩
theorem top_wd : Wd 18446744073709551615 := ⟨by omega, by omega⟩
theorem sj3 (k : Nat) (b : Bool) (p e lm nm ct bs rn : Int) : hystart_Sample.j3 (k + 1) b p e lm nm ct bs rn = some (st3 b p e lm nm ct bs rn) := by
  simp only [hystart_Sample.j3, st3]
  repeat' split
  all_goals rfl
theorem sj2 (k : Nat) (b : Bool) (p e lm nm ct bs rn : Int) (hlm : Wd lm) : hystart_Sample.j2 (k + 2) b p e lm nm ct bs rn = some (st2 b p e lm nm ct bs rn) := by
  simp only [hystart_Sample.j2, st2]
  have hl := lim8_wd hlm
  rw [eighth hlm, show mn (mx (lm / 8) 4) 16 = lim8 lm by rw [mn_eq, mx_eq]; rfl, add_eq hlm hl]
  simp only [Option.bind_some]
  by_cases hb : b = true
  · rw [if_pos hb, if_pos hb]
  · rw [if_neg hb, if_neg hb]
    by_cases h0 : p = 0
    · rw [if_pos h0, sj3]
      simp [h0]
    · rw [if_neg h0, sj3, show (p == 0) = false by simpa using h0]
      rfl
theorem sj1 (k : Nat) (took p e lm nm ct bs rn : Int) (hlm : Wd lm) (hct : Wd ct) : hystart_Sample.j1 (k + 3) took p e lm nm ct bs rn = some (st1 took p e lm nm ct bs rn) := by
  simp only [hystart_Sample.j1, st1, hystart_Sample_1.f, Option.bind_some]
  by_cases h2 : p = 2
  · simp [h2]
  · rw [if_neg (by simpa using h2), if_neg h2, add_eq hct one_wd, mn_eq]
    simp only [Option.bind_some]
    by_cases h8 : sadd ct 1 < 8
    · rw [if_pos h8, sj2 _ _ _ _ _ _ _ _ _ hlm]
      simp [h8]
    · rw [if_neg h8]
      by_cases ht : min nm took = 18446744073709551615
      · rw [if_pos ht, sj2 _ _ _ _ _ _ _ _ _ hlm]
        simp [ht]
      · rw [if_neg ht, sj2 _ _ _ _ _ _ _ _ _ hlm, show (min nm took == 18446744073709551615) = false by simpa using ht, show decide (sadd ct 1 < 8) = false by simpa using h8]
        rfl
theorem sj0 (k : Nat) (next took : Int) (b : Bool) (p e lm nm ct bs rn : Int) (hlm : Wd lm) (hnm : Wd nm) (hct : Wd ct) (hrn : Wd rn) : hystart_Sample.j0 (k + 4) next took b p e lm nm ct bs rn = some (st0 next took b p e lm nm ct bs rn) := by
  simp only [hystart_Sample.j0, st0]
  by_cases hb : b = true
  · rw [if_pos hb, if_pos hb]
    by_cases h1 : p = 1
    · rw [if_pos h1, if_pos h1, add_eq hrn one_wd]
      simp only [Option.bind_some]
      by_cases h5 : sadd rn 1 = 5
      · rw [if_pos h5, if_pos h5, sj1 _ _ _ _ _ _ _ _ _ hnm zero_wd]
      · rw [if_neg h5, if_neg h5, sj1 _ _ _ _ _ _ _ _ _ hnm zero_wd]
    · rw [if_neg h1, if_neg h1, sj1 _ _ _ _ _ _ _ _ _ hnm zero_wd]
  · rw [if_neg hb, if_neg hb, sj1 _ _ _ _ _ _ _ _ _ hlm hct]
theorem sample_eq (k : Nat) (p e lm nm ct bs rn number next took : Int) (hlm : Wd lm) (hnm : Wd nm) (hct : Wd ct) (hrn : Wd rn) :
    hystart_Sample.f (k + 4) p e lm nm ct bs rn number next took = some (samp p e lm nm ct bs rn number next took) := by
  simp only [hystart_Sample.f, samp, hystart_Sample_1.f, Option.bind_some]
  by_cases h2 : p = 2
  · rw [if_pos (by simpa using h2), sj0 _ _ _ _ _ _ _ _ _ _ _ hlm hnm hct hrn]
    simp [h2]
  · rw [if_neg (by simpa using h2), sj0 _ _ _ _ _ _ _ _ _ _ _ hlm hnm hct hrn]
    have : (p == 2) = false := by simpa using h2
    rw [this]
    rfl
/-! The reference's. -/
theorem rj3 (k : Nat) (b : Bool) (p e lm nm ct bs rn : Int) : wigwagref11_Sample.j3 (k + 1) b p e lm nm ct bs rn = some (st3 b p e lm nm ct bs rn) := by
  simp only [wigwagref11_Sample.j3, st3]
  repeat' split
  all_goals rfl
theorem rlim {lm : Int} (h : Wd lm) : wigwagref11_Limit.f lm = some (lim8 lm) := by
  unfold wigwagref11_Limit.f lim8
  rw [eighth h]
  obtain ⟨_, _⟩ := h
  repeat' split
  all_goals (congr 1; omega)
theorem rj2 (k : Nat) (b : Bool) (p e lm nm ct bs rn : Int) (hlm : Wd lm) : wigwagref11_Sample.j2 (k + 2) b p e lm nm ct bs rn = some (st2 b p e lm nm ct bs rn) := by
  simp only [wigwagref11_Sample.j2, st2]
  rw [rlim hlm]
  simp only [Option.bind_some]
  rw [radd_eq hlm (lim8_wd hlm)]
  simp only [Option.bind_some]
  by_cases hb : b = true
  · rw [if_pos hb, if_pos hb]
  · rw [if_neg hb, if_neg hb]
    by_cases h0 : p = 0
    · rw [if_pos h0, rj3]
      simp [h0]
    · rw [if_neg h0, rj3, show (p == 0) = false by simpa using h0]
      rfl
theorem rj1 (k : Nat) (p e lm nm ct bs rn : Int) (hlm : Wd lm) (hct : Wd ct) : wigwagref11_Sample.j1 (k + 3) p e lm nm ct bs rn = some (st2 (decide (sadd ct 1 < 8) || (nm == 18446744073709551615 || lm == 18446744073709551615)) p e lm nm (sadd ct 1) bs rn) := by
  simp only [wigwagref11_Sample.j1]
  rw [radd_eq hct one_wd]
  simp only [Option.bind_some]
  by_cases h8 : sadd ct 1 < 8
  · rw [if_pos h8, rj2 _ _ _ _ _ _ _ _ _ hlm]
    simp [h8]
  · rw [if_neg h8]
    by_cases ht : nm = 18446744073709551615
    · rw [if_pos ht, rj2 _ _ _ _ _ _ _ _ _ hlm]
      simp [ht]
    · rw [if_neg ht, rj2 _ _ _ _ _ _ _ _ _ hlm, show (nm == 18446744073709551615) = false by simpa using ht, show decide (sadd ct 1 < 8) = false by simpa using h8]
      rfl
theorem rj0 (k : Nat) (took p e lm nm ct bs rn : Int) (hlm : Wd lm) (hct : Wd ct) : wigwagref11_Sample.j0 (k + 4) took p e lm nm ct bs rn = some (st1 took p e lm nm ct bs rn) := by
  simp only [wigwagref11_Sample.j0, st1]
  by_cases h2 : p = 2
  · rw [if_pos h2, if_pos h2]
  · rw [if_neg h2, if_neg h2]
    by_cases ht : took < nm
    · rw [if_pos ht, rj1 _ _ _ _ _ _ _ _ hlm hct, show min nm took = took by omega]
    · rw [if_neg ht, rj1 _ _ _ _ _ _ _ _ hlm hct, show min nm took = nm by omega]
theorem rsample_eq (k : Nat) (p e lm nm ct bs rn number next took : Int) (hlm : Wd lm) (hnm : Wd nm) (hct : Wd ct) (hrn : Wd rn) :
    wigwagref11_Sample.f (k + 4) p e lm nm ct bs rn number next took = some (samp p e lm nm ct bs rn number next took) := by
  simp only [wigwagref11_Sample.f, samp]
  by_cases h2 : p = 2
  · rw [if_pos h2]
    simp [h2, st0, st1]
  · rw [if_neg h2, show (p == 2) = false by simpa using h2]
    by_cases he : number ≥ e
    · rw [if_pos he]
      rw [show (!false && decide (number ≥ e)) = true by simpa using he]
      simp only [wigwagref11_round.f, st0, if_true]
      by_cases h1 : p = 1
      · rw [if_pos h1, if_pos h1, radd_eq hrn one_wd]
        simp only [Option.bind_some]
        by_cases h5 : sadd rn 1 = 5
        · rw [if_pos h5, if_pos h5]
          simp only [Option.bind_some]
          rw [rj0 _ _ _ _ _ _ _ _ _ hnm zero_wd]
        · rw [if_neg h5, if_neg h5]
          simp only [Option.bind_some]
          rw [rj0 _ _ _ _ _ _ _ _ _ hnm zero_wd]
      · rw [if_neg h1, if_neg h1]
        simp only [Option.bind_some]
        rw [rj0 _ _ _ _ _ _ _ _ _ hnm zero_wd]
    · rw [if_neg he, rj0 _ _ _ _ _ _ _ _ _ hlm hct]
      rw [show (!false && decide (number ≥ e)) = false by simpa using he]
      rfl
theorem awake_at : wigwaglaw11_awake.f 60 = some true := by decide +kernel
theorem awake_eq (k : Nat) (h : 60 ≤ k) : wigwaglaw11_awake.f k = some true := at_rounds wigwaglaw11_awake.mono h awake_at
end Go.Proofs.Ythclohjlbajclaa.Pure
