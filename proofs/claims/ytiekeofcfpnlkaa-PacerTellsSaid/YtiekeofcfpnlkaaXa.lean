/- The arithmetic of layer 16: a bucket behind some time, and how long it takes, as plain functions; the program's and the reference's are they. -/
import Derived.Test.YtiekeofcfpnlkaaPx2
import Derived.Test.YtiekeofcfpnlkaaPx3
import Derived.Test.YtiekeofcfpnlkaaPx4
import Derived.Test.YtiekeofcfpnlkaaPx8
import Derived.Test.YtiekeofcfpnlkaaPx9
namespace Go.Proofs.Ytiekeofcfpnlkaa.Pure
open Go.RowKit Go.Proofs.Ytiekeofcfpnlkaa.P Go.Proofs.YtiekeofcfpnlkaaW.PrintWords Go.Proofs.YtiekeofcfpnlkaaW.PrintLast Go.Proofs.YtiekeofcfpnlkaaW.PrintMore
set_option linter.unusedSimpArgs false
set_option linter.unusedVariables false
/-- A word: a number of 64 bits without a sign. -/
def Wd (x : Int) : Prop := 0 ≤ x ∧ x < 18446744073709551616
theorem wd_of {x : Int} (h : (Lit.int .u64 x).wf = true) : Wd x := by
  simp [Lit.wf, IntKind.min, IntKind.max, IntKind.signed, IntKind.bits] at h
  exact ⟨by omega, by omega⟩
def sadd (a b : Int) : Int := if a + b < 18446744073709551616 then a + b else 18446744073709551615
def ssub (a b : Int) : Int := if a < b then 0 else a - b
theorem wrapu (x : Int) : IntKind.u64.wrap x = x % 18446744073709551616 := IntKind.wrap_u64 x
theorem wrapu_id {x : Int} (h : Wd x) : IntKind.u64.wrap x = x := by rw [wrapu]; obtain ⟨_, _⟩ := h; omega
theorem sadd_wd {a b : Int} (ha : Wd a) (hb : Wd b) : Wd (sadd a b) := by
  obtain ⟨_, _⟩ := ha; obtain ⟨_, _⟩ := hb; unfold sadd Wd; split <;> omega
theorem ssub_wd {a b : Int} (ha : Wd a) (hb : Wd b) : Wd (ssub a b) := by
  obtain ⟨_, _⟩ := ha; obtain ⟨_, _⟩ := hb; unfold ssub Wd; split <;> omega
theorem tdiv_pos {x : Int} (h : 0 ≤ x) (k : Nat) : Int.tdiv x (k : Int) = x / (k : Int) := Int.tdiv_eq_ediv_of_nonneg h
theorem mx_eq (a b : Int) : mx a b = max a b := by unfold mx; omega
theorem mn_eq (a b : Int) : mn a b = min a b := by unfold mn; omega
theorem add_eq {a b : Int} (ha : Wd a) (hb : Wd b) : fix_Add.f a b = some (sadd a b) := by
  unfold fix_Add.f sadd
  rw [if_pos ha.1, if_pos hb.1]
  split <;> rfl
theorem radd_eq {a b : Int} (ha : Wd a) (hb : Wd b) : wigwagref01_Add.f a b = some (sadd a b) := by
  obtain ⟨_, _⟩ := ha; obtain ⟨_, _⟩ := hb
  unfold wigwagref01_Add.f sadd
  rw [wrapu, wrapu]
  (repeat' split) <;> first | rfl | (congr 1; omega) | omega
theorem sub_eq {a b : Int} (ha : Wd a) (hb : Wd b) : fix_Sub.f a b = some (ssub a b) := by
  obtain ⟨_, _⟩ := ha; obtain ⟨_, _⟩ := hb
  unfold fix_Sub.f ssub
  rw [wrapu, mn_eq]
  congr 1
  split <;> omega
theorem rsub_eq {a b : Int} (ha : Wd a) (hb : Wd b) : wigwagref01_Sub.f a b = some (ssub a b) := by
  obtain ⟨_, _⟩ := ha; obtain ⟨_, _⟩ := hb
  unfold wigwagref01_Sub.f ssub
  rw [wrapu]
  (repeat' split) <;> first | rfl | (congr 1; omega) | omega
def smul (a b : Int) : Int := if a * b < 18446744073709551616 then a * b else 18446744073709551615
theorem smul_wd {a b : Int} (ha : Wd a) (hb : Wd b) : Wd (smul a b) := by
  have h := Int.mul_nonneg ha.1 hb.1
  unfold smul Wd; split <;> omega
theorem mul_eq {a b : Int} (ha : Wd a) (hb : Wd b) : fix_Mul.f a b = some (smul a b) := by
  unfold fix_Mul.f bits_Mul64.f smul
  rw [if_pos ha.1, if_pos ha.2, if_pos hb.1, if_pos hb.2]
  simp only [Option.bind_some]
  have h := Int.mul_nonneg ha.1 hb.1
  generalize a * b = p at h
  (repeat' split) <;> first | rfl | (congr 1; omega) | omega
theorem rmul_eq {a b : Int} (ha : Wd a) (hb : Wd b) : wigwagref01_Mul.f a b = some (smul a b) := by
  obtain ⟨a0, a1⟩ := ha; obtain ⟨b0, b1⟩ := hb
  unfold wigwagref01_Mul.f smul
  by_cases h : b > 0
  · rw [if_pos h, if_neg (by omega), show Int.tdiv (18446744073709551615 : Int) b = 18446744073709551615 / b from Int.tdiv_eq_ediv_of_nonneg (by omega)]
    have hq0 : 0 ≤ 18446744073709551615 / b := Int.ediv_nonneg (by omega) (by omega)
    have hq1 : 18446744073709551615 / b ≤ 18446744073709551615 := Int.ediv_le_self _ (by omega)
    rw [wrapu_id ⟨hq0, by omega⟩]
    have hle := Int.le_ediv_iff_mul_le (a := a) (b := 18446744073709551615) h
    by_cases h2 : a ≤ 18446744073709551615 / b
    · have := hle.1 h2
      rw [if_neg (by omega), if_pos (by omega), wrapu_id ⟨Int.mul_nonneg a0 b0, by omega⟩]
    · have : ¬ a * b ≤ 18446744073709551615 := fun q => h2 (hle.2 q)
      rw [if_pos (by omega), if_neg (by omega)]
  · obtain rfl : b = 0 := by omega
    rw [if_neg h, Int.mul_zero, if_pos (by omega)]
    rfl
theorem awake_eq : wigwaglaw16_awake.f = some true := rfl
abbrev B3 := Int × Int × Int
/-- A bucket behind some time. -/
def fill (at_ tok rest now rate burst : Int) : B3 :=
  if now ≤ at_ then (at_, tok, rest) else
    (if sadd tok (sadd rest (smul rate (now - at_)) / 1000) ≥ burst then (now, burst, 0) else (now, sadd tok (sadd rest (smul rate (now - at_)) / 1000), sadd rest (smul rate (now - at_)) % 1000))
theorem thousand {d : Int} (hd : Wd d) : IntKind.u64.wrap (Int.tdiv d 1000) = d / 1000 ∧ Int.tmod d 1000 = d % 1000 ∧ Wd (d / 1000) := by
  obtain ⟨h0, h1⟩ := hd
  rw [wrapu, show Int.tdiv d 1000 = d / 1000 from tdiv_pos h0 1000]
  exact ⟨by omega, Int.tmod_eq_emod_of_nonneg h0, by omega, by omega⟩
theorem fill_eq {at_ tok rest now rate burst : Int} (h1 : Wd at_) (h2 : Wd tok) (h3 : Wd rest) (h4 : Wd now) (h5 : Wd rate) : pacer_Fill.f at_ tok rest now rate burst = some (fill at_ tok rest now rate burst) := by
  unfold pacer_Fill.f fill
  by_cases h : now ≤ at_
  · rw [if_pos h, if_pos h]
  · have hd : Wd (now - at_) := by obtain ⟨_, _⟩ := h1; obtain ⟨_, _⟩ := h4; exact ⟨by omega, by omega⟩
    rw [if_neg h, if_neg h, wrapu_id hd, mul_eq h5 hd]
    simp only [Option.bind_some]
    rw [add_eq h3 (smul_wd h5 hd)]
    simp only [Option.bind_some]
    have hc := sadd_wd h3 (smul_wd h5 hd)
    generalize sadd rest (smul rate (now - at_)) = came at hc
    obtain ⟨e1, e2, e3⟩ := thousand hc
    rw [e1, e2, add_eq h2 e3]
    simp only [Option.bind_some, pacer_New.f]
    generalize sadd tok (came / 1000) = t
    by_cases hb : (!(now == now) || (!(t == burst) || (!(came % 1000 == 0)))) = true
    · rw [if_pos hb]
      split <;> rfl
    · rw [if_neg hb]
      simp at hb
      obtain ⟨rfl, hb⟩ := hb
      rw [if_pos (by omega), hb]
theorem rfill_eq {at_ tok rest now rate burst : Int} (h1 : Wd at_) (h2 : Wd tok) (h3 : Wd rest) (h4 : Wd now) (h5 : Wd rate) : wigwagref16_Fill.f at_ tok rest now rate burst = some (fill at_ tok rest now rate burst) := by
  unfold wigwagref16_Fill.f fill
  by_cases h : now ≤ at_
  · rw [if_pos h, if_pos h]
  · have hd : Wd (now - at_) := by obtain ⟨_, _⟩ := h1; obtain ⟨_, _⟩ := h4; exact ⟨by omega, by omega⟩
    rw [if_neg h, if_neg h, wrapu_id hd, rmul_eq h5 hd]
    simp only [Option.bind_some]
    rw [radd_eq h3 (smul_wd h5 hd)]
    simp only [Option.bind_some]
    have hc := sadd_wd h3 (smul_wd h5 hd)
    generalize sadd rest (smul rate (now - at_)) = came at hc
    obtain ⟨e1, e2, e3⟩ := thousand hc
    rw [e1, e2, radd_eq h2 e3]
    simp only [Option.bind_some]
    split <;> rfl
theorem take_eq (a b c n : Int) : wigwagref16_Take.f a b c n = pacer_Take.f a b c n := rfl
theorem w1000 : Wd 1000 := ⟨by omega, by omega⟩
theorem wait_same {a tok rest bytes rate : Int} (h2 : Wd tok) (h3 : Wd rest) (h4 : Wd bytes) (h5 : Wd rate) : ∃ r, pacer_Wait.f a tok rest bytes rate = some r ∧ wigwagref16_Wait.f a tok rest bytes rate = some r := by
  unfold pacer_Wait.f wigwagref16_Wait.f
  by_cases h : tok ≥ bytes
  · exact ⟨0, by rw [if_pos h], by rw [if_pos h]⟩
  · by_cases h0 : rate = 0
    · exact ⟨_, by rw [if_neg h, if_pos h0], by rw [if_neg h, if_pos h0]⟩
    · have hd : Wd (bytes - tok) := by obtain ⟨_, _⟩ := h2; obtain ⟨_, _⟩ := h4; exact ⟨by omega, by omega⟩
      rw [if_neg h, if_neg h0, if_neg h, if_neg h0, wrapu_id hd, mul_eq w1000 hd, rmul_eq w1000 hd]
      simp only [Option.bind_some]
      rw [sub_eq (smul_wd w1000 hd) h3, rsub_eq (smul_wd w1000 hd) h3]
      simp only [Option.bind_some, pacer_Wait_1.f]
      rw [if_neg h0]
      split <;> exact ⟨_, rfl, rfl⟩
theorem u32_of {x : Int} (h : (Lit.int .u32 x).wf = true) : 0 ≤ x ∧ x < 4294967296 := by
  simp [Lit.wf, IntKind.min, IntKind.max, IntKind.signed, IntKind.bits] at h
  exact ⟨by omega, by omega⟩
theorem u16_of {x : Int} (h : (Lit.int .u16 x).wf = true) : 0 ≤ x ∧ x < 65536 := by
  simp [Lit.wf, IntKind.min, IntKind.max, IntKind.signed, IntKind.bits] at h
  exact ⟨by omega, by omega⟩
theorem small {x : Int} (h : 0 ≤ x ∧ x < 4294967296) : Wd x := ⟨h.1, by omega⟩
theorem rd16 {l : List Int} (hw : ∀ x ∈ l, (Lit.int .u16 x).wf = true) {i : Int} (h0 : 0 ≤ i) (h1 : i < (l.length : Int)) : 0 ≤ rd l i ∧ rd l i < 65536 := by
  unfold rd
  rw [List.getD_eq_getElem?_getD, List.getElem?_eq_getElem (by omega)]
  exact u16_of (hw _ (List.getElem_mem _))
theorem up {i : Int} (h0 : 0 ≤ i) (h1 : i < 1000) : wrap64 (i + 1) = i + 1 := by unfold wrap64; omega
end Go.Proofs.Ytiekeofcfpnlkaa.Pure
