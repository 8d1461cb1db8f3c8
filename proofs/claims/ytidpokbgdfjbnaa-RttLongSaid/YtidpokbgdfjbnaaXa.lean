/- The arithmetic of layer 8: what is known behind an answer, and how long a sender waits, as plain functions; the program's and the reference's are they. -/
import Derived.Test.YtidpokbgdfjbnaaPx12
import Derived.Test.YtidpokbgdfjbnaaPx13
import Derived.Test.YtidpokbgdfjbnaaPx14
import Derived.Test.YtidpokbgdfjbnaaPx15
import Derived.Test.YtidpokbgdfjbnaaPx2
import Derived.Test.YtidpokbgdfjbnaaPx3
import Derived.Test.YtidpokbgdfjbnaaPx4
import Derived.Test.YtidpokbgdfjbnaaPx5
import Derived.Test.YtidpokbgdfjbnaaPx6
import Derived.Test.YtidpokbgdfjbnaaPx7
namespace Go.Proofs.Ytidpokbgdfjbnaa.Pure
open Go.RowKit Go.Proofs.Ytidpokbgdfjbnaa.P Go.Proofs.YtidpokbgdfjbnaaW.PrintWords Go.Proofs.YtidpokbgdfjbnaaW.PrintLast Go.Proofs.YtidpokbgdfjbnaaW.PrintMore
set_option linter.unusedSimpArgs false
set_option linter.unusedVariables false
/-- A word: a number of 64 bits without a sign. -/
def Wd (x : Int) : Prop := 0 ≤ x ∧ x < 18446744073709551616
theorem wd_of {x : Int} (h : (Lit.int .u64 x).wf = true) : Wd x := by
  simp [Lit.wf, IntKind.min, IntKind.max, IntKind.signed, IntKind.bits] at h
  exact ⟨by omega, by omega⟩
def sadd (a b : Int) : Int := if a + b < 18446744073709551616 then a + b else 18446744073709551615
def ssub (a b : Int) : Int := if a < b then 0 else a - b
theorem wrapu (x : Int) : IntKind.u64.wrap x = x % 18446744073709551616 := IntKind.wrap_u64 x
theorem wrapu_id {x : Int} (h : Wd x) : IntKind.u64.wrap x = x := by rw [wrapu]; obtain ⟨_, _⟩ := h; omega
theorem sadd_wd {a b : Int} (ha : Wd a) (hb : Wd b) : Wd (sadd a b) := by
  obtain ⟨_, _⟩ := ha; obtain ⟨_, _⟩ := hb; unfold sadd Wd; split <;> omega
theorem ssub_wd {a b : Int} (ha : Wd a) (hb : Wd b) : Wd (ssub a b) := by
  obtain ⟨_, _⟩ := ha; obtain ⟨_, _⟩ := hb; unfold ssub Wd; split <;> omega
theorem tdiv_pos {x : Int} (h : 0 ≤ x) (k : Nat) : Int.tdiv x (k : Int) = x / (k : Int) := Int.tdiv_eq_ediv_of_nonneg h
theorem mx_eq (a b : Int) : mx a b = max a b := by unfold mx; omega
theorem mn_eq (a b : Int) : mn a b = min a b := by unfold mn; omega
theorem add_eq {a b : Int} (ha : Wd a) (hb : Wd b) : fix_Add.f a b = some (sadd a b) := by
  unfold fix_Add.f sadd
  rw [if_pos ha.1, if_pos hb.1]
  split <;> rfl
theorem radd_eq {a b : Int} (ha : Wd a) (hb : Wd b) : wigwagref01_Add.f a b = some (sadd a b) := by
  obtain ⟨_, _⟩ := ha; obtain ⟨_, _⟩ := hb
  unfold wigwagref01_Add.f sadd
  rw [wrapu, wrapu]
  (repeat' split) <;> first | rfl | (congr 1; omega) | omega
def smul (a b : Int) : Int := if a * b < 18446744073709551616 then a * b else 18446744073709551615
theorem smul_wd {a b : Int} (ha : Wd a) (hb : Wd b) : Wd (smul a b) := by
  have h := Int.mul_nonneg ha.1 hb.1
  unfold smul Wd; split <;> omega
theorem mul_eq {a b : Int} (ha : Wd a) (hb : Wd b) : fix_Mul.f a b = some (smul a b) := by
  unfold fix_Mul.f bits_Mul64.f smul
  rw [if_pos ha.1, if_pos ha.2, if_pos hb.1, if_pos hb.2]
  simp only [Option.bind_some]
  have h := Int.mul_nonneg ha.1 hb.1
  generalize a * b = p at h
  (repeat' split) <;> first | rfl | (congr 1; omega) | omega
theorem rmul_eq {a b : Int} (ha : Wd a) (hb : Wd b) : wigwagref01_Mul.f a b = some (smul a b) := by
  obtain ⟨a0, a1⟩ := ha; obtain ⟨b0, b1⟩ := hb
  unfold wigwagref01_Mul.f smul
  by_cases h : b > 0
  · rw [if_pos h, if_neg (by omega), show Int.tdiv (18446744073709551615 : Int) b = 18446744073709551615 / b from Int.tdiv_eq_ediv_of_nonneg (by omega)]
    have hq0 : 0 ≤ 18446744073709551615 / b := Int.ediv_nonneg (by omega) (by omega)
    have hq1 : 18446744073709551615 / b ≤ 18446744073709551615 := Int.ediv_le_self _ (by omega)
    rw [wrapu_id ⟨hq0, by omega⟩]
    have hle := Int.le_ediv_iff_mul_le (a := a) (b := 18446744073709551615) h
    by_cases h2 : a ≤ 18446744073709551615 / b
    · have := hle.1 h2
      rw [if_neg (by omega), if_pos (by omega), wrapu_id ⟨Int.mul_nonneg a0 b0, by omega⟩]
    · have : ¬ a * b ≤ 18446744073709551615 := fun q => h2 (hle.2 q)
      rw [if_pos (by omega), if_neg (by omega)]
  · obtain rfl : b = 0 := by omega
    rw [if_neg h, Int.mul_zero, if_pos (by omega)]
    rfl
theorem part {d : Int} (hd : Wd d) (n : Nat) (h : 0 < n) : IntKind.u64.wrap (Int.tdiv d (n : Int)) = d / (n : Int) := by
  obtain ⟨h0, h1⟩ := hd
  rw [wrapu, show Int.tdiv d (n : Int) = d / (n : Int) from tdiv_pos h0 n]
  have a := Int.ediv_nonneg h0 (show (0 : Int) ≤ n by omega)
  have b := Int.ediv_le_self (n : Int) h0
  omega
theorem part8 {d : Int} (hd : Wd d) : IntKind.u64.wrap (Int.tdiv d 8) = d / 8 := part hd 8 (by omega)
theorem part4 {d : Int} (hd : Wd d) : IntKind.u64.wrap (Int.tdiv d 4) = d / 4 := part hd 4 (by omega)
theorem part2 {d : Int} (hd : Wd d) : IntKind.u64.wrap (Int.tdiv d 2) = d / 2 := part hd 2 (by omega)
theorem mx_wd {a b : Int} (ha : Wd a) (hb : Wd b) : Wd (max a b) := by
  obtain ⟨_, _⟩ := ha; obtain ⟨_, _⟩ := hb; exact ⟨by omega, by omega⟩
theorem mn_wd {a b : Int} (ha : Wd a) (hb : Wd b) : Wd (min a b) := by
  obtain ⟨_, _⟩ := ha; obtain ⟨_, _⟩ := hb; exact ⟨by omega, by omega⟩
abbrev R5 := Bool × Int × Int × Int × Int
/-- The sample, less the delay where that leaves the least one. -/
def less (mi sample delay most : Int) : Int := if sample ≥ sadd (min mi sample) (min delay most) then sample - min delay most else sample
def smooth (sm x : Int) : Int := sadd (sm - sm / 8) (x / 8)
def vary (sm va x : Int) : Int := sadd (va - va / 4) ((max sm x - min sm x) / 4)
def upd (has : Bool) (la mi sm va sample delay most : Int) : R5 :=
  if has = true then (true, sample, min mi sample, smooth sm (less mi sample delay most), vary sm va (less mi sample delay most)) else (true, sample, sample, sample, sample / 2)
theorem less_wd {mi sample delay most : Int} (h1 : Wd mi) (h2 : Wd sample) (h3 : Wd delay) (h4 : Wd most) : Wd (less mi sample delay most) := by
  unfold less sadd
  obtain ⟨_, _⟩ := h1; obtain ⟨_, _⟩ := h2; obtain ⟨_, _⟩ := h3; obtain ⟨_, _⟩ := h4
  constructor <;> (repeat' split) <;> omega
theorem sub_part {a : Int} (ha : Wd a) (n : Int) (hn : n = 8 ∨ n = 4) : IntKind.u64.wrap (a - a / n) = a - a / n ∧ Wd (a - a / n) := by
  obtain ⟨_, _⟩ := ha
  rcases hn with rfl | rfl <;> (rw [wrapu]; exact ⟨by omega, by omega, by omega⟩)
theorem far_eq {sm x : Int} (hs : Wd sm) (hx : Wd x) : IntKind.u64.wrap (max sm x - min sm x) = max sm x - min sm x ∧ Wd (max sm x - min sm x) := by
  obtain ⟨_, _⟩ := hs; obtain ⟨_, _⟩ := hx
  rw [wrapu]; exact ⟨by omega, by omega, by omega⟩
theorem div_wd {a : Int} (ha : Wd a) (n : Int) (hn : n = 8 ∨ n = 4) : Wd (a / n) := by
  obtain ⟨_, _⟩ := ha
  rcases hn with rfl | rfl <;> exact ⟨by omega, by omega⟩
theorem update_eq (k : Nat) (has : Bool) {la mi sm va sample delay most : Int} (h2 : Wd mi) (h3 : Wd sm) (h4 : Wd va) (h5 : Wd sample) (h6 : Wd delay) (h7 : Wd most) :
    rtt_Update.f (k + 1) has la mi sm va sample delay most = some (upd has la mi sm va sample delay most) := by
  have key : ∀ x, Wd x → rtt_Update.j0 (k + 1) x has sample (min mi sample) sm va = some (has, sample, min mi sample, smooth sm x, vary sm va x) := by
    intro x hx
    simp only [rtt_Update.j0, rtt_Update_1.f, Option.bind_some]
    rw [mx_eq, mn_eq, (far_eq h3 hx).1, part4 h4, part4 (far_eq h3 hx).2, part8 h3, part8 hx, (sub_part h4 4 (.inr rfl)).1, (sub_part h3 8 (.inl rfl)).1, add_eq (sub_part h4 4 (.inr rfl)).2 (div_wd (far_eq h3 hx).2 4 (.inr rfl)), add_eq (sub_part h3 8 (.inl rfl)).2 (div_wd hx 8 (.inl rfl))]
    rfl
  unfold rtt_Update.f upd
  by_cases hh : has = true
  · rw [if_pos hh, if_pos hh, mn_eq, mn_eq, add_eq (mn_wd h2 h5) (mn_wd h6 h7)]
    simp only [Option.bind_some]
    have hl := less_wd h2 h5 h6 h7
    have hm := mn_wd h6 h7
    unfold less at hl ⊢
    by_cases hs : sample ≥ sadd (min mi sample) (min delay most)
    · rw [if_pos hs] at hl ⊢
      rw [if_pos hs, wrapu_id hl, key _ hl, hh]
    · rw [if_neg hs] at hl ⊢
      rw [if_neg hs, key _ hl, hh]
  · rw [if_neg hh, if_neg hh, part2 h5]
theorem least_eq (a b : Int) : wigwagref08_least.f a b = some (min a b) := by
  unfold wigwagref08_least.f; split <;> (congr 1; omega)
theorem greater_eq (a b : Int) : wigwagref08_greater.f a b = some (max a b) := by
  unfold wigwagref08_greater.f; split <;> (congr 1; omega)
theorem rupdate_eq (k : Nat) (has : Bool) {la mi sm va sample delay most : Int} (h2 : Wd mi) (h3 : Wd sm) (h4 : Wd va) (h5 : Wd sample) (h6 : Wd delay) (h7 : Wd most) :
    wigwagref08_Update.f (k + 1) has la mi sm va sample delay most = some (upd has la mi sm va sample delay most) := by
  have key : ∀ x b1 b2, Wd x → wigwagref08_Update.j0 (k + 1) sample (min mi sample) x has b1 b2 sm va = some (true, sample, min mi sample, smooth sm x, vary sm va x) := by
    intro x b1 b2 hx
    simp only [wigwagref08_Update.j0, least_eq, greater_eq, Option.bind_some]
    rw [(far_eq h3 hx).1, part4 h4, part4 (far_eq h3 hx).2, part8 h3, part8 hx, (sub_part h4 4 (.inr rfl)).1, (sub_part h3 8 (.inl rfl)).1, radd_eq (sub_part h4 4 (.inr rfl)).2 (div_wd (far_eq h3 hx).2 4 (.inr rfl)), radd_eq (sub_part h3 8 (.inl rfl)).2 (div_wd hx 8 (.inl rfl))]
    rfl
  unfold wigwagref08_Update.f upd
  by_cases hh : has = true
  · rw [if_pos hh, if_pos hh, least_eq, least_eq]
    simp only [Option.bind_some]
    rw [radd_eq (mn_wd h2 h5) (mn_wd h6 h7)]
    simp only [Option.bind_some]
    have hl := less_wd h2 h5 h6 h7
    have hm := mn_wd h6 h7
    unfold less at hl ⊢
    by_cases hs : sample ≥ sadd (min mi sample) (min delay most)
    · rw [if_pos hs] at hl ⊢
      rw [if_pos hs, wrapu_id hl, key _ _ _ hl]
    · rw [if_neg hs] at hl ⊢
      rw [if_neg hs, key _ _ _ hl]
  · rw [if_neg hh, if_neg hh, part2 h5]
/-- How long a sender waits the first time. -/
def wait0 (has : Bool) (sm va most : Int) : Int := if has = true then sadd (sadd sm (max (smul 4 va) 1)) most else sadd (sadd 333 (max (smul 4 166) 1)) most
def rounds (count : Int) : Nat := (min (max count 0) 10).toNat
def wait (has : Bool) (sm va most count : Int) : Int := smul (wait0 has sm va most) (2 ^ rounds count)
theorem four_wd : Wd 4 := ⟨by omega, by omega⟩
theorem one_wd : Wd 1 := ⟨by omega, by omega⟩
theorem two_wd : Wd 2 := ⟨by omega, by omega⟩
theorem w333 : Wd 333 := ⟨by omega, by omega⟩
theorem w166 : Wd 166 := ⟨by omega, by omega⟩
theorem wait0_wd {has : Bool} {sm va most : Int} (h1 : Wd sm) (h2 : Wd va) (h3 : Wd most) : Wd (wait0 has sm va most) := by
  unfold wait0
  split
  · exact sadd_wd (sadd_wd h1 (mx_wd (smul_wd four_wd h2) one_wd)) h3
  · exact sadd_wd (sadd_wd w333 (mx_wd (smul_wd four_wd w166) one_wd)) h3
theorem pow_small : ∀ n : Nat, n ≤ 10 → (1 : Int) ≤ 2 ^ n ∧ (2 : Int) ^ n ≤ 1024 := by
  have h : ∀ n : Fin 11, (1 : Int) ≤ 2 ^ n.val ∧ (2 : Int) ^ n.val ≤ 1024 := by decide
  exact fun n hn => h ⟨n, by omega⟩
theorem rounds_le (count : Int) : rounds count ≤ 10 := by unfold rounds; omega
theorem pow_wd {n : Nat} (h : n ≤ 10) : Wd (2 ^ n) := by
  have := pow_small n h
  exact ⟨by omega, by omega⟩
theorem timeout_eq (k : Nat) (has : Bool) {la mi sm va most count : Int} (h3 : Wd sm) (h4 : Wd va) (h5 : Wd most) :
    rtt_Timeout.f (k + 2) has la mi sm va most count = some (wait has sm va most count) := by
  have j1 : ∀ b x1 x2 x3 x4, Wd x3 → Wd x4 → rtt_Timeout.j1 (k + 1) most count b x1 x2 x3 x4 = some (smul (sadd (sadd x3 (max (smul 4 x4) 1)) most) (2 ^ rounds count)) := by
    intro b x1 x2 x3 x4 w3 w4
    simp only [rtt_Timeout.j1]
    rw [mul_eq four_wd w4]
    simp only [Option.bind_some]
    have q1 := mx_wd (smul_wd four_wd w4) one_wd
    rw [mx_eq, add_eq w3 q1]
    simp only [Option.bind_some]
    rw [add_eq (sadd_wd w3 q1) h5]
    simp only [Option.bind_some]
    rw [show (mn (mx count 0) 10).toNat = rounds count by rw [mn_eq, mx_eq]; rfl, wrapu_id (pow_wd (rounds_le count)), mul_eq (sadd_wd (sadd_wd w3 q1) h5) (pow_wd (rounds_le count))]
    rfl
  have j0 : ∀ b : Bool, b = !has → rtt_Timeout.j0 (k + 2) most count b has la mi sm va = some (wait has sm va most count) := by
    intro b hb
    subst hb
    simp only [rtt_Timeout.j0]
    unfold wait wait0
    cases has
    · rw [if_pos (by rfl), if_neg (by simp), j1 _ _ _ _ _ w333 w166]
    · rw [if_neg (by simp), if_pos rfl, j1 _ _ _ _ _ h3 h4]
  unfold rtt_Timeout.f
  split
  · rename_i h
    refine j0 true ?_
    cases has
    · rfl
    · simp at h
  · exact j0 _ rfl
theorem smul_twice {b c : Int} (hb : 0 ≤ b) (hc : 1 ≤ c) : smul (smul b c) 2 = smul b (c * 2) := by
  have h : b * (c * 2) = b * c * 2 := by rw [Int.mul_assoc]
  have h0 := Int.mul_nonneg hb (show (0 : Int) ≤ c by omega)
  unfold smul
  rw [h]
  generalize b * c = p at h0
  (repeat' split) <;> omega
theorem rloop (b count : Int) (hb : Wd b) (d : Nat) : ∀ (k j : Nat), j + d = rounds count → 2 * d + 2 ≤ k → wigwagref08_Timeout.l0 k count (smul b (2 ^ j)) (j : Int) = some (smul b (2 ^ rounds count)) := by
  induction d with
  | zero =>
    intro k j hj hk
    obtain ⟨k, rfl⟩ : ∃ m, k = m + 2 := ⟨k - 2, by omega⟩
    have hj' : j = rounds count := by omega
    subst hj'
    simp only [wigwagref08_Timeout.l0, wigwagref08_Timeout.j2]
    by_cases h : ((rounds count : Nat) : Int) < count
    · rw [if_pos h, show decide (((rounds count : Nat) : Int) < 10) = false by unfold rounds at h ⊢; simp; omega]
      rfl
    · rw [if_neg h]
      rfl
  | succ d ih =>
    intro k j hj hk
    obtain ⟨k, rfl⟩ : ∃ m, k = m + 2 := ⟨k - 2, by omega⟩
    have hj10 := rounds_le count
    simp only [wigwagref08_Timeout.l0, wigwagref08_Timeout.j2]
    rw [if_pos (show (j : Int) < count by unfold rounds at hj; omega), show decide ((j : Int) < 10) = true by simp; omega, if_pos rfl, rmul_eq (smul_wd hb (pow_wd (by omega))) two_wd]
    simp only [Option.bind_some]
    rw [smul_twice hb.1 (pow_small j (by omega)).1, show (2 : Int) ^ j * 2 = 2 ^ (j + 1) from (Int.pow_succ 2 j).symm, show wrap64 ((j : Int) + 1) = ((j + 1 : Nat) : Int) by unfold wrap64; omega]
    exact ih k (j + 1) (by omega) (by omega)
theorem rtimeout_eq (k : Nat) (has : Bool) {la mi sm va most count : Int} (h3 : Wd sm) (h4 : Wd va) (h5 : Wd most) :
    wigwagref08_Timeout.f (k + 30) has la mi sm va most count = some (wait has sm va most count) := by
  have j0 : ∀ b x1 x2 x3 x4, Wd x3 → Wd x4 → wigwagref08_Timeout.j0 (k + 30) most count b x1 x2 x3 x4 = some (smul (sadd (sadd x3 (max (smul 4 x4) 1)) most) (2 ^ rounds count)) := by
    intro b x1 x2 x3 x4 w3 w4
    have q1 := mx_wd (smul_wd four_wd w4) one_wd
    simp only [wigwagref08_Timeout.j0]
    rw [rmul_eq four_wd w4]
    simp only [Option.bind_some, greater_eq]
    rw [radd_eq w3 q1]
    simp only [Option.bind_some]
    rw [radd_eq (sadd_wd w3 q1) h5]
    simp only [Option.bind_some]
    have hw := sadd_wd (sadd_wd w3 q1) h5
    generalize sadd (sadd x3 (max (smul 4 x4) 1)) most = b at hw
    have := rloop b count hw (rounds count) (k + 29) 0 (by omega) (by have := rounds_le count; omega)
    rw [show smul b (2 ^ 0) = b by unfold smul; obtain ⟨_, _⟩ := hw; rw [if_pos (by simp; omega)]; simp] at this
    exact this
  unfold wigwagref08_Timeout.f wait wait0
  by_cases h : has = true
  · rw [if_pos h, if_pos h, j0 _ _ _ _ _ h3 h4]
  · rw [if_neg h, if_neg h, j0 _ _ _ _ _ w333 w166]
def late (has : Bool) (la sm : Int) : Int := if has = true then max (sadd (max sm la) (max sm la / 8)) 1 else 374
theorem late_eq (has : Bool) {la mi sm va : Int} (h1 : Wd la) (h3 : Wd sm) : rtt_Late.f has la mi sm va = some (late has la sm) := by
  unfold rtt_Late.f late
  by_cases h : has = true
  · rw [if_pos h, if_pos h, mx_eq, part8 (mx_wd h3 h1), add_eq (mx_wd h3 h1) (div_wd (mx_wd h3 h1) 8 (.inl rfl))]
    simp only [Option.bind_some, mx_eq]
  · rw [if_neg h, if_neg h]
    rfl
theorem rlate_eq (has : Bool) {la mi sm va : Int} (h1 : Wd la) (h3 : Wd sm) : wigwagref08_Late.f has la mi sm va = some (late has la sm) := by
  unfold wigwagref08_Late.f late
  rw [greater_eq]
  simp only [Option.bind_some]
  by_cases h : has = true
  · rw [if_pos h, if_pos h, part8 (mx_wd h3 h1), radd_eq (mx_wd h3 h1) (div_wd (mx_wd h3 h1) 8 (.inl rfl))]
    simp only [Option.bind_some, greater_eq]
  · rw [if_neg h, if_neg h]
    decide +kernel
theorem awake_at : wigwaglaw08_awake.f 10 = some true := by decide +kernel
theorem awake_eq (k : Nat) (h : 10 ≤ k) : wigwaglaw08_awake.f k = some true := at_rounds wigwaglaw08_awake.mono h awake_at
end Go.Proofs.Ytidpokbgdfjbnaa.Pure
