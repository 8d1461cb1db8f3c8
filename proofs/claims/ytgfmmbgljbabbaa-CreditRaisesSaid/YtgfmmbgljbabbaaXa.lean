/- The arithmetic of layer 19: each function of the program, and of the reference, over words. -/
import Derived.Test.YtgfmmbgljbabbaaPx11
import Derived.Test.YtgfmmbgljbabbaaPx12
import Derived.Test.YtgfmmbgljbabbaaPx13
import Derived.Test.YtgfmmbgljbabbaaPx3
import Derived.Test.YtgfmmbgljbabbaaPx5
import Derived.Test.YtgfmmbgljbabbaaPx6
namespace Go.Proofs.Ytgfmmbgljbabbaa.Pure
open Go.RowKit Go.Proofs.Ytgfmmbgljbabbaa.P Go.Proofs.YtgfmmbgljbabbaaW.PrintWords Go.Proofs.YtgfmmbgljbabbaaW.PrintLast Go.Proofs.YtgfmmbgljbabbaaW.PrintMore
/-- A word: a number of 64 bits without a sign. -/
def Wd (x : Int) : Prop := 0 ≤ x ∧ x < 18446744073709551616
theorem wd_of {x : Int} (h : (Lit.int .u64 x).wf = true) : Wd x := by
  simp [Lit.wf, IntKind.min, IntKind.max, IntKind.signed, IntKind.bits] at h
  exact ⟨by omega, by omega⟩
def sadd (a b : Int) : Int := if a + b < 18446744073709551616 then a + b else 18446744073709551615
def ssub (a b : Int) : Int := if a < b then 0 else a - b
theorem wrapu (x : Int) : IntKind.u64.wrap x = x % 18446744073709551616 := IntKind.wrap_u64 x
theorem wrapu_id {x : Int} (h : Wd x) : IntKind.u64.wrap x = x := by rw [wrapu]; obtain ⟨_, _⟩ := h; omega
theorem sadd_wd {a b : Int} (ha : Wd a) (hb : Wd b) : Wd (sadd a b) := by
  obtain ⟨_, _⟩ := ha; obtain ⟨_, _⟩ := hb; unfold sadd Wd; split <;> omega
theorem ssub_wd {a b : Int} (ha : Wd a) (hb : Wd b) : Wd (ssub a b) := by
  obtain ⟨_, _⟩ := ha; obtain ⟨_, _⟩ := hb; unfold ssub Wd; split <;> omega
theorem tdiv_pos {x : Int} (h : 0 ≤ x) (k : Nat) : Int.tdiv x (k : Int) = x / (k : Int) := Int.tdiv_eq_ediv_of_nonneg h
theorem mx_eq (a b : Int) : mx a b = max a b := by unfold mx; omega
theorem mn_eq (a b : Int) : mn a b = min a b := by unfold mn; omega
theorem add_eq {a b : Int} (ha : Wd a) (hb : Wd b) : fix_Add.f a b = some (sadd a b) := by
  unfold fix_Add.f sadd
  rw [if_pos ha.1, if_pos hb.1]
  split <;> rfl
theorem radd_eq {a b : Int} (ha : Wd a) (hb : Wd b) : wigwagref01_Add.f a b = some (sadd a b) := by
  obtain ⟨_, _⟩ := ha; obtain ⟨_, _⟩ := hb
  unfold wigwagref01_Add.f sadd
  rw [wrapu, wrapu]
  (repeat' split) <;> first | rfl | (congr 1; omega) | omega
theorem sub_eq {a b : Int} (ha : Wd a) (hb : Wd b) : fix_Sub.f a b = some (ssub a b) := by
  obtain ⟨_, _⟩ := ha; obtain ⟨_, _⟩ := hb
  unfold fix_Sub.f ssub
  rw [wrapu, mn_eq]
  congr 1
  split <;> omega
theorem rsub_eq {a b : Int} (ha : Wd a) (hb : Wd b) : wigwagref01_Sub.f a b = some (ssub a b) := by
  obtain ⟨_, _⟩ := ha; obtain ⟨_, _⟩ := hb
  unfold wigwagref01_Sub.f ssub
  rw [wrapu]
  (repeat' split) <;> first | rfl | (congr 1; omega) | omega
theorem awake_eq : wigwaglaw19_awake.f = some true := rfl
theorem left_eq {a b : Int} (ha : Wd a) (hb : Wd b) : credit_Left.f a b = some (ssub a b) := by unfold credit_Left.f; rw [sub_eq ha hb]; rfl
theorem rleft_eq {a b : Int} (ha : Wd a) (hb : Wd b) : wigwagref19_Left.f a b = some (ssub a b) := by unfold wigwagref19_Left.f; rw [rsub_eq ha hb]; rfl
theorem use_eq {a b n : Int} (ha : Wd a) (hb : Wd b) (hn : Wd n) : credit_Use.f a b n = some (if n > ssub a b then (a, b, false) else (a, sadd b n, true)) := by
  unfold credit_Use.f
  rw [left_eq ha hb, add_eq hb hn]
  simp only [Option.bind_some]
  split <;> rfl
theorem ruse_eq {a b n : Int} (ha : Wd a) (hb : Wd b) (hn : Wd n) : wigwagref19_Use.f a b n = some (if n > ssub a b then (a, b, false) else (a, sadd b n, true)) := by
  unfold wigwagref19_Use.f
  rw [rleft_eq ha hb, radd_eq hb hn]
  simp only [Option.bind_some]
  split <;> rfl
theorem come_eq {a b c d n : Int} (ha : Wd a) (hb : Wd b) (hn : Wd n) : credit_Come.f a b c d n = some (if n > ssub a b then (a, b, c, d, 3) else (a, sadd b n, c, d, 0)) := by
  unfold credit_Come.f
  rw [sub_eq ha hb, add_eq hb hn]
  simp only [Option.bind_some]
  split <;> rfl
theorem rcome_eq {a b c d n : Int} (ha : Wd a) (hb : Wd b) (hn : Wd n) : wigwagref19_Come.f a b c d n = some (if n > ssub a b then (a, b, c, d, 3) else (a, sadd b n, c, d, 0)) := by
  unfold wigwagref19_Come.f
  rw [rsub_eq ha hb, radd_eq hb hn]
  simp only [Option.bind_some]
  split <;> rfl
theorem half {d : Int} (hd : Wd d) : IntKind.u64.wrap (Int.tdiv d 2) = d / 2 := by
  obtain ⟨h0, h1⟩ := hd
  rw [wrapu, show Int.tdiv d 2 = d / 2 from tdiv_pos h0 2]
  omega
/-- The grant behind so much more that was read. -/
def limitOf (a r d : Int) : Int := if ssub a r < d / 2 then max a (sadd r d) else a
theorem mn_wd {a b : Int} (ha : Wd a) (hb : Wd b) : Wd (mn a b) := by unfold mn; split <;> assumption
theorem read_eq {a b c d n : Int} (ha : Wd a) (hb : Wd b) (hc : Wd c) (hd : Wd d) (hn : Wd n) :
    credit_Read.f a b c d n = some (limitOf a (mn (sadd c n) b) d, b, mn (sadd c n) b, d, !(limitOf a (mn (sadd c n) b) d == a)) := by
  unfold credit_Read.f credit_Read_1.f limitOf
  rw [add_eq hc hn]
  simp only [Option.bind_some]
  have hr := mn_wd (sadd_wd hc hn) hb
  generalize mn (sadd c n) b = r at hr ⊢
  rw [sub_eq ha hr, add_eq hr hd, half hd]
  simp only [Option.bind_some]
  split
  · simp [mx_eq]
  · simp
theorem rread_eq {a b c d n : Int} (ha : Wd a) (hb : Wd b) (hc : Wd c) (hd : Wd d) (hn : Wd n) (k : Nat) :
    wigwagref19_Read.f (k + 1) a b c d n = some (limitOf a (mn (sadd c n) b) d, b, mn (sadd c n) b, d, !(limitOf a (mn (sadd c n) b) d == a)) := by
  have key : ∀ r, Wd r → wigwagref19_Read.j0 (k + 1) a b r d = some (limitOf a r d, b, r, d, !(limitOf a r d == a)) := by
    intro r hr
    simp only [wigwagref19_Read.j0]
    rw [rsub_eq ha hr, radd_eq hr hd, half hd]
    simp only [Option.bind_some]
    unfold limitOf
    by_cases h : ssub a r < d / 2
    · rw [if_neg (by omega), if_pos h]
      by_cases h2 : sadd r d > a
      · rw [if_pos h2, show max a (sadd r d) = sadd r d by omega]
        have : (sadd r d == a) = false := by simp; omega
        rw [this]; rfl
      · rw [if_neg h2, show max a (sadd r d) = a by omega]
        simp
    · rw [if_pos (by omega), if_neg h]
      simp
  unfold wigwagref19_Read.f
  rw [radd_eq hc hn]
  simp only [Option.bind_some]
  have hs := sadd_wd hc hn
  unfold mn
  by_cases h : sadd c n > b
  · rw [if_pos h, if_pos (by omega), key b hb]
  · rw [if_neg h, if_neg (by omega), key _ hs]
theorem raise_eq (a b n : Int) : wigwagref19_Raise.f a b n = credit_Raise.f a b n := by
  unfold wigwagref19_Raise.f credit_Raise.f mx
  (repeat' split) <;> first | rfl | omega
theorem stream_eq (a b : Int) : wigwagref19_Stream.f a b = credit_Stream.f a b := rfl
theorem begin_eq (a : Int) : wigwagref19_Begin.f a = credit_Begin.f a := rfl
theorem quarter {d : Int} (hd : Wd d) : IntKind.u64.wrap (Int.tdiv d 4) = d / 4 := by
  obtain ⟨h0, h1⟩ := hd
  rw [wrapu, show Int.tdiv d 4 = d / 4 from tdiv_pos h0 4]
  omega
end Go.Proofs.Ytgfmmbgljbabbaa.Pure
