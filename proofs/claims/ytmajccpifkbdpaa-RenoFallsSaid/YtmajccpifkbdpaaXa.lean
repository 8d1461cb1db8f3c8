/- The arithmetic of layer 10: a window behind bytes that came, and a loss, as plain functions; the program's and the reference's are they. -/
import Derived.Test.YtmajccpifkbdpaaPx12
import Derived.Test.YtmajccpifkbdpaaPx13
import Derived.Test.YtmajccpifkbdpaaPx14
import Derived.Test.YtmajccpifkbdpaaPx2
import Derived.Test.YtmajccpifkbdpaaPx3
import Derived.Test.YtmajccpifkbdpaaPx4
import Derived.Test.YtmajccpifkbdpaaPx5
namespace Go.Proofs.Ytmajccpifkbdpaa.Pure
open Go.RowKit Go.Proofs.Ytmajccpifkbdpaa.P Go.Proofs.YtmajccpifkbdpaaW.PrintWords Go.Proofs.YtmajccpifkbdpaaW.PrintLast Go.Proofs.YtmajccpifkbdpaaW.PrintMore
set_option linter.unusedSimpArgs false
set_option linter.unusedVariables false
/-- A word: a number of 64 bits without a sign. -/
def Wd (x : Int) : Prop := 0 ≤ x ∧ x < 18446744073709551616
theorem wd_of {x : Int} (h : (Lit.int .u64 x).wf = true) : Wd x := by
  simp [Lit.wf, IntKind.min, IntKind.max, IntKind.signed, IntKind.bits] at h
  exact ⟨by omega, by omega⟩
def sadd (a b : Int) : Int := if a + b < 18446744073709551616 then a + b else 18446744073709551615
def ssub (a b : Int) : Int := if a < b then 0 else a - b
theorem wrapu (x : Int) : IntKind.u64.wrap x = x % 18446744073709551616 := IntKind.wrap_u64 x
theorem wrapu_id {x : Int} (h : Wd x) : IntKind.u64.wrap x = x := by rw [wrapu]; obtain ⟨_, _⟩ := h; omega
theorem sadd_wd {a b : Int} (ha : Wd a) (hb : Wd b) : Wd (sadd a b) := by
  obtain ⟨_, _⟩ := ha; obtain ⟨_, _⟩ := hb; unfold sadd Wd; split <;> omega
theorem ssub_wd {a b : Int} (ha : Wd a) (hb : Wd b) : Wd (ssub a b) := by
  obtain ⟨_, _⟩ := ha; obtain ⟨_, _⟩ := hb; unfold ssub Wd; split <;> omega
theorem tdiv_pos {x : Int} (h : 0 ≤ x) (k : Nat) : Int.tdiv x (k : Int) = x / (k : Int) := Int.tdiv_eq_ediv_of_nonneg h
theorem mx_eq (a b : Int) : mx a b = max a b := by unfold mx; omega
theorem mn_eq (a b : Int) : mn a b = min a b := by unfold mn; omega
theorem add_eq {a b : Int} (ha : Wd a) (hb : Wd b) : fix_Add.f a b = some (sadd a b) := by
  unfold fix_Add.f sadd
  rw [if_pos ha.1, if_pos hb.1]
  split <;> rfl
theorem radd_eq {a b : Int} (ha : Wd a) (hb : Wd b) : wigwagref01_Add.f a b = some (sadd a b) := by
  obtain ⟨_, _⟩ := ha; obtain ⟨_, _⟩ := hb
  unfold wigwagref01_Add.f sadd
  rw [wrapu, wrapu]
  (repeat' split) <;> first | rfl | (congr 1; omega) | omega
def smul (a b : Int) : Int := if a * b < 18446744073709551616 then a * b else 18446744073709551615
theorem smul_wd {a b : Int} (ha : Wd a) (hb : Wd b) : Wd (smul a b) := by
  have h := Int.mul_nonneg ha.1 hb.1
  unfold smul Wd; split <;> omega
theorem mul_eq {a b : Int} (ha : Wd a) (hb : Wd b) : fix_Mul.f a b = some (smul a b) := by
  unfold fix_Mul.f bits_Mul64.f smul
  rw [if_pos ha.1, if_pos ha.2, if_pos hb.1, if_pos hb.2]
  simp only [Option.bind_some]
  have h := Int.mul_nonneg ha.1 hb.1
  generalize a * b = p at h
  (repeat' split) <;> first | rfl | (congr 1; omega) | omega
theorem rmul_eq {a b : Int} (ha : Wd a) (hb : Wd b) : wigwagref01_Mul.f a b = some (smul a b) := by
  obtain ⟨a0, a1⟩ := ha; obtain ⟨b0, b1⟩ := hb
  unfold wigwagref01_Mul.f smul
  by_cases h : b > 0
  · rw [if_pos h, if_neg (by omega), show Int.tdiv (18446744073709551615 : Int) b = 18446744073709551615 / b from Int.tdiv_eq_ediv_of_nonneg (by omega)]
    have hq0 : 0 ≤ 18446744073709551615 / b := Int.ediv_nonneg (by omega) (by omega)
    have hq1 : 18446744073709551615 / b ≤ 18446744073709551615 := Int.ediv_le_self _ (by omega)
    rw [wrapu_id ⟨hq0, by omega⟩]
    have hle := Int.le_ediv_iff_mul_le (a := a) (b := 18446744073709551615) h
    by_cases h2 : a ≤ 18446744073709551615 / b
    · have := hle.1 h2
      rw [if_neg (by omega), if_pos (by omega), wrapu_id ⟨Int.mul_nonneg a0 b0, by omega⟩]
    · have : ¬ a * b ≤ 18446744073709551615 := fun q => h2 (hle.2 q)
      rw [if_pos (by omega), if_neg (by omega)]
  · obtain rfl : b = 0 := by omega
    rw [if_neg h, Int.mul_zero, if_pos (by omega)]
    rfl
abbrev R4 := Int × Int × Int × Int
def held (x : Int) : Int := min (max x 2400) 16777216
theorem held_eq (x : Int) : reno_Held.f x = some (held x) := by unfold reno_Held.f held; rw [mn_eq, mx_eq]
theorem rheld_eq (x : Int) : wigwagref10_Held.f x = some (held x) := by
  unfold wigwagref10_Held.f held
  (repeat' split) <;> (congr 1; omega)
/-- A window behind bytes that came. -/
def ack (c th si re bytes at_ : Int) (limited : Bool) : R4 :=
  if limited = true ∨ at_ < si then (c, th, si, re) else
    (if c < th then (held (sadd c bytes), th, si, re) else (held (sadd c (sadd re (smul bytes 1200) / max c 1)), th, si, sadd re (smul bytes 1200) % max c 1))
/-- A window behind a loss. -/
def loss (c th si re at_ now : Int) : R4 := if at_ < si then (c, th, si, re) else (held (c / 2), held (c / 2), sadd now 1, 0)
theorem w1200 : Wd 1200 := ⟨by omega, by omega⟩
theorem one_wd : Wd 1 := ⟨by omega, by omega⟩
theorem zero_wd : Wd 0 := ⟨by omega, by omega⟩
theorem parted {a b : Int} (ha : Wd a) (hb : 0 < b) : IntKind.u64.wrap (Int.tdiv a b) = a / b ∧ Int.tmod a b = a % b ∧ Wd (a / b) := by
  have h0 := Int.ediv_nonneg ha.1 (show 0 ≤ b by omega)
  have h1 := Int.ediv_le_self b ha.1
  have hw : Wd (a / b) := ⟨h0, by have := ha.2; omega⟩
  rw [show Int.tdiv a b = a / b from Int.tdiv_eq_ediv_of_nonneg ha.1, wrapu_id hw]
  exact ⟨rfl, Int.tmod_eq_emod_of_nonneg ha.1, hw⟩
theorem ack_eq (k : Nat) {c th si re bytes at_ : Int} {limited : Bool} (h1 : Wd c) (h2 : Wd re) (h3 : Wd bytes) : reno_Ack.f (k + 1) c th si re bytes at_ limited = some (ack c th si re bytes at_ limited) := by
  have key : ∀ b : Bool, reno_Ack.j0 (k + 1) bytes b c th si re = some (if b = true then (c, th, si, re) else (if c < th then (held (sadd c bytes), th, si, re) else (held (sadd c (sadd re (smul bytes 1200) / max c 1)), th, si, sadd re (smul bytes 1200) % max c 1))) := by
    intro b
    simp only [reno_Ack.j0]
    by_cases hb : b = true
    · rw [if_pos hb, if_pos hb]
    · rw [if_neg hb, if_neg hb]
      by_cases hc : c < th
      · rw [if_pos hc, if_pos hc]
        simp only [reno_Ack_1.f]
        rw [add_eq h1 h3]
        simp only [Option.bind_some, held_eq]
      · rw [if_neg hc, if_neg hc, mul_eq h3 w1200]
        simp only [Option.bind_some]
        rw [add_eq h2 (smul_wd h3 w1200)]
        simp only [Option.bind_some]
        have hs := sadd_wd h2 (smul_wd h3 w1200)
        generalize sadd re (smul bytes 1200) = s at hs
        rw [mx_eq, if_neg (by omega)]
        obtain ⟨e1, e2, e3⟩ := parted hs (show 0 < max c 1 by omega)
        rw [e1, e2]
        simp only [reno_Ack_1.f]
        rw [add_eq h1 e3]
        simp only [Option.bind_some, held_eq]
  unfold reno_Ack.f ack
  by_cases hl : limited = true
  · rw [if_pos hl, key, if_pos rfl, if_pos (.inl hl)]
  · rw [if_neg hl, key]
    by_cases ha : at_ < si
    · rw [if_pos (by simpa using ha), if_pos (.inr ha)]
    · rw [if_neg (by simpa using ha), if_neg (show ¬ (limited = true ∨ at_ < si) by simp [hl, ha])]
theorem rack_eq (k : Nat) {c th si re bytes at_ : Int} {limited : Bool} (h1 : Wd c) (h2 : Wd re) (h3 : Wd bytes) : wigwagref10_Ack.f (k + 1) c th si re bytes at_ limited = some (ack c th si re bytes at_ limited) := by
  have key : ∀ b : Bool, wigwagref10_Ack.j0 (k + 1) bytes b c th si re = some (if b = true then (c, th, si, re) else (if c < th then (held (sadd c bytes), th, si, re) else (held (sadd c (sadd re (smul bytes 1200) / max c 1)), th, si, sadd re (smul bytes 1200) % max c 1))) := by
    intro b
    simp only [wigwagref10_Ack.j0]
    by_cases hb : b = true
    · rw [if_pos hb, if_pos hb]
    · rw [if_neg hb, if_neg hb]
      by_cases hc : c < th
      · rw [if_pos hc, if_pos hc, radd_eq h1 h3]
        simp only [Option.bind_some, rheld_eq]
      · rw [if_neg hc, if_neg hc, rmul_eq h3 w1200]
        simp only [Option.bind_some]
        rw [radd_eq h2 (smul_wd h3 w1200)]
        simp only [Option.bind_some]
        have hs := sadd_wd h2 (smul_wd h3 w1200)
        generalize sadd re (smul bytes 1200) = s at hs
        by_cases h0 : c = 0
        · subst h0
          rw [if_pos rfl, wrapu_id hs, radd_eq h1 hs]
          simp only [Option.bind_some, rheld_eq]
          rw [show max (0:Int) 1 = 1 by decide, Int.ediv_one, Int.emod_one]
        · have hc1 : max c 1 = c := by have := h1.1; omega
          have hc0 : 0 < c := by have := h1.1; omega
          rw [if_neg h0, hc1]
          obtain ⟨e1, e2, e3⟩ := parted hs hc0
          rw [e1, e2, radd_eq h1 e3]
          simp only [Option.bind_some, rheld_eq]
  unfold wigwagref10_Ack.f ack
  by_cases ha : at_ < si
  · rw [if_pos ha, key, if_pos rfl, if_pos (.inr ha)]
  · rw [if_neg ha, key]
    by_cases hl : limited = true
    · rw [if_pos hl, if_pos (.inl hl)]
    · rw [if_neg hl, if_neg (show ¬ (limited = true ∨ at_ < si) by simp [hl, ha])]
theorem half {c : Int} (h : Wd c) : IntKind.u64.wrap (Int.tdiv c 2) = c / 2 := (parted h (by omega)).1
theorem loss_eq {c th si re at_ now : Int} (h1 : Wd c) (h2 : Wd now) : reno_Loss.f c th si re at_ now = some (loss c th si re at_ now) := by
  unfold reno_Loss.f loss
  by_cases h : at_ < si
  · rw [if_pos h, if_pos h]
  · rw [if_neg h, if_neg h, half h1, held_eq]
    simp only [Option.bind_some]
    rw [add_eq h2 one_wd]
    simp only [Option.bind_some]
    generalize held (c / 2) = q
    generalize sadd now 1 = s
    split
    · rfl
    · rename_i hb
      simp at hb
      obtain ⟨rfl, rfl, rfl, rfl⟩ := hb
      rfl
theorem rloss_eq {c th si re at_ now : Int} (h1 : Wd c) (h2 : Wd now) : wigwagref10_Loss.f c th si re at_ now = some (loss c th si re at_ now) := by
  unfold wigwagref10_Loss.f loss
  by_cases h : at_ < si
  · rw [if_pos h, if_pos h]
  · rw [if_neg h, if_neg h, half h1, rheld_eq]
    simp only [Option.bind_some]
    rw [radd_eq h2 one_wd]
    simp only [Option.bind_some]
theorem awake_at : wigwaglaw10_awake.f 5 = some true := by decide +kernel
theorem awake_eq (k : Nat) (h : 5 ≤ k) : wigwaglaw10_awake.f k = some true := at_rounds wigwaglaw10_awake.mono h awake_at
theorem u32_of {x : Int} (h : (Lit.int .u32 x).wf = true) : 0 ≤ x ∧ x < 4294967296 := by
  simp [Lit.wf, IntKind.min, IntKind.max, IntKind.signed, IntKind.bits] at h
  exact ⟨by omega, by omega⟩
theorem u16_of {x : Int} (h : (Lit.int .u16 x).wf = true) : 0 ≤ x ∧ x < 65536 := by
  simp [Lit.wf, IntKind.min, IntKind.max, IntKind.signed, IntKind.bits] at h
  exact ⟨by omega, by omega⟩
theorem small {x : Int} (h : 0 ≤ x ∧ x < 4294967296) : Wd x := ⟨h.1, by omega⟩
theorem up {i : Int} (h0 : 0 ≤ i) (h1 : i < 1000) : wrap64 (i + 1) = i + 1 := by unfold wrap64; omega
end Go.Proofs.Ytmajccpifkbdpaa.Pure
