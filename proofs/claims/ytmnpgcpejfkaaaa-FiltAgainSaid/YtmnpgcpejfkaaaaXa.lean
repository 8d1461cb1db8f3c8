/- Layer 2: a push, of the program and of the reference, as a filter of the list and one more. -/
import Derived.Test.YtmnpgcpejfkaaaaPx11
import Derived.Test.YtmnpgcpejfkaaaaPx12
import Derived.Test.YtmnpgcpejfkaaaaPx13
import Derived.Test.YtmnpgcpejfkaaaaPx3
import Derived.Test.YtmnpgcpejfkaaaaPx4
import Derived.Test.YtmnpgcpejfkaaaaPx5
import Derived.Test.YtmnpgcpejfkaaaaPx6
namespace Go.Proofs.Ytmnpgcpejfkaaaa.Pure
open Go.RowKit Go.Proofs.Ytmnpgcpejfkaaaa.P Go.Proofs.YtmnpgcpejfkaaaaW.PrintWords Go.Proofs.YtmnpgcpejfkaaaaW.PrintLast Go.Proofs.YtmnpgcpejfkaaaaW.PrintMore
/-- A word: a number of 64 bits without a sign. -/
def Wd (x : Int) : Prop := 0 ≤ x ∧ x < 18446744073709551616
theorem wd_of {x : Int} (h : (Lit.int .u64 x).wf = true) : Wd x := by
  simp [Lit.wf, IntKind.min, IntKind.max, IntKind.signed, IntKind.bits] at h
  exact ⟨by omega, by omega⟩
def sadd (a b : Int) : Int := if a + b < 18446744073709551616 then a + b else 18446744073709551615
def ssub (a b : Int) : Int := if a < b then 0 else a - b
theorem wrapu (x : Int) : IntKind.u64.wrap x = x % 18446744073709551616 := IntKind.wrap_u64 x
theorem wrapu_id {x : Int} (h : Wd x) : IntKind.u64.wrap x = x := by rw [wrapu]; obtain ⟨_, _⟩ := h; omega
theorem sadd_wd {a b : Int} (ha : Wd a) (hb : Wd b) : Wd (sadd a b) := by
  obtain ⟨_, _⟩ := ha; obtain ⟨_, _⟩ := hb; unfold sadd Wd; split <;> omega
theorem ssub_wd {a b : Int} (ha : Wd a) (hb : Wd b) : Wd (ssub a b) := by
  obtain ⟨_, _⟩ := ha; obtain ⟨_, _⟩ := hb; unfold ssub Wd; split <;> omega
theorem tdiv_pos {x : Int} (h : 0 ≤ x) (k : Nat) : Int.tdiv x (k : Int) = x / (k : Int) := Int.tdiv_eq_ediv_of_nonneg h
theorem mx_eq (a b : Int) : mx a b = max a b := by unfold mx; omega
theorem mn_eq (a b : Int) : mn a b = min a b := by unfold mn; omega
theorem add_eq {a b : Int} (ha : Wd a) (hb : Wd b) : fix_Add.f a b = some (sadd a b) := by
  unfold fix_Add.f sadd
  rw [if_pos ha.1, if_pos hb.1]
  split <;> rfl
theorem radd_eq {a b : Int} (ha : Wd a) (hb : Wd b) : wigwagref01_Add.f a b = some (sadd a b) := by
  obtain ⟨_, _⟩ := ha; obtain ⟨_, _⟩ := hb
  unfold wigwagref01_Add.f sadd
  rw [wrapu, wrapu]
  (repeat' split) <;> first | rfl | (congr 1; omega) | omega
structure Ws (x : S25) : Prop where
  a : Wd x.f0
  v : Wd x.f1
/-- The order that a list keeps: of values, or of values turned about. -/
def vof (g : Bool) (x : S25) : Int := if g = true then x.f1 else -x.f1
def keep (g : Bool) (w : Int) (s x : S25) : Bool := decide (sadd x.f0 w ≥ s.f0) && decide (vof g x > vof g s)
def push (g : Bool) (w : Int) (s : S25) (l : List S25) : List S25 := l.filter (keep g w s) ++ [s]
theorem rd_at {l : List S25} {j : Nat} (h : j < l.length) : rd_T25 l (j : Int) = l[j] := by
  unfold rd_T25
  rw [Int.toNat_natCast, List.getD_eq_getElem?_getD, List.getElem?_eq_getElem h]
  rfl
theorem up {j n : Nat} (h : j < n) (hn : n < 1000000) : wrap64 ((j : Int) + 1) = ((j + 1 : Nat) : Int) := by unfold wrap64; omega
theorem max1_eq {x s : S25} {w : Int} (hx : Ws x) (hw : Wd w) : filt_PushMax_1.f x.f0 x.f1 w s.f0 s.f1 = some (keep true w s x) := by
  unfold filt_PushMax_1.f keep vof
  rw [add_eq hx.a hw]
  simp only [Option.bind_some, if_true]
  by_cases h : sadd x.f0 w ≥ s.f0
  · rw [if_pos h, decide_eq_true h, Bool.true_and]
  · rw [if_neg h, decide_eq_false h, Bool.false_and]
theorem min1_eq {x s : S25} {w : Int} (hx : Ws x) (hw : Wd w) : filt_PushMin_1.f x.f0 x.f1 w s.f0 s.f1 = some (keep false w s x) := by
  unfold filt_PushMin_1.f keep vof
  rw [add_eq hx.a hw]
  simp only [Option.bind_some, Bool.false_eq_true, if_false]
  have e : decide (-x.f1 > -s.f1) = decide (x.f1 < s.f1) := by apply decide_eq_decide.mpr; omega
  rw [e]
  by_cases h : sadd x.f0 w ≥ s.f0
  · rw [if_pos h, decide_eq_true h, Bool.true_and]
  · rw [if_neg h, decide_eq_false h, Bool.false_and]
section
variable {l : List S25} {w : Int} {s : S25} (hl : ∀ x ∈ l, Ws x) (hn : l.length < 1000000) (hw : Wd w)
include hl hn hw
theorem kept_max (d : Nat) : ∀ (j : Nat) (out : List S25) (k : Nat), j + d = l.length → out.length + d < 8796093022208 → d + 1 ≤ k →
    filt_kept_19.l0 k out l (l.length : Int) (j : Int) w s.f0 s.f1 s.f0 s.f1 = some (out ++ (l.drop j).filter (keep true w s) ++ [s]) := by
  induction d with
  | zero =>
    intro j out k hj ho hk
    obtain ⟨k, rfl⟩ : ∃ m, k = m + 1 := ⟨k - 1, by omega⟩
    rw [filt_kept_19.l0, if_neg (by omega), if_pos (by omega), List.drop_eq_nil_of_le (by omega)]
    simp
  | succ d ih =>
    intro j out k hj ho hk
    obtain ⟨k, rfl⟩ : ∃ m, k = m + 1 := ⟨k - 1, by omega⟩
    have hjl : j < l.length := by omega
    have hx := hl _ (List.getElem_mem hjl)
    rw [filt_kept_19.l0, if_pos (by omega), if_pos (by omega), if_pos (by omega), rd_at hjl, max1_eq hx hw, List.drop_eq_getElem_cons hjl, up hjl hn]
    simp only [Option.bind_some]
    by_cases hq : keep true w s l[j] = true
    · have i1 := ih (j + 1) (out ++ [(⟨l[j].f0, l[j].f1⟩ : S25)]) k (by omega) (by simp; omega) (by omega)
      rw [if_pos hq, if_pos (by omega), i1, List.filter_cons_of_pos hq]
      simp
    · rw [if_neg hq, ih (j + 1) out k (by omega) (by omega) (by omega), List.filter_cons_of_neg hq]
theorem kept_min (d : Nat) : ∀ (j : Nat) (out : List S25) (k : Nat), j + d = l.length → out.length + d < 8796093022208 → d + 1 ≤ k →
    filt_kept_22.l0 k out l (l.length : Int) (j : Int) w s.f0 s.f1 s.f0 s.f1 = some (out ++ (l.drop j).filter (keep false w s) ++ [s]) := by
  induction d with
  | zero =>
    intro j out k hj ho hk
    obtain ⟨k, rfl⟩ : ∃ m, k = m + 1 := ⟨k - 1, by omega⟩
    rw [filt_kept_22.l0, if_neg (by omega), if_pos (by omega), List.drop_eq_nil_of_le (by omega)]
    simp
  | succ d ih =>
    intro j out k hj ho hk
    obtain ⟨k, rfl⟩ : ∃ m, k = m + 1 := ⟨k - 1, by omega⟩
    have hjl : j < l.length := by omega
    have hx := hl _ (List.getElem_mem hjl)
    rw [filt_kept_22.l0, if_pos (by omega), if_pos (by omega), if_pos (by omega), rd_at hjl, min1_eq hx hw, List.drop_eq_getElem_cons hjl, up hjl hn]
    simp only [Option.bind_some]
    by_cases hq : keep false w s l[j] = true
    · have i1 := ih (j + 1) (out ++ [(⟨l[j].f0, l[j].f1⟩ : S25)]) k (by omega) (by simp; omega) (by omega)
      rw [if_pos hq, if_pos (by omega), i1, List.filter_cons_of_pos hq]
      simp
    · rw [if_neg hq, ih (j + 1) out k (by omega) (by omega) (by omega), List.filter_cons_of_neg hq]
theorem ref_push (g : Bool) (d : Nat) : ∀ (j : Nat) (out : List S25) (k : Nat), j + d = l.length → out.length + d < 8796093022208 → d + 1 ≤ k →
    wigwagref02_push.l0 k l w g out (j : Int) s.f0 s.f1 = some (out ++ (l.drop j).filter (keep g w s) ++ [s]) := by
  induction d with
  | zero =>
    intro j out k hj ho hk
    obtain ⟨k, rfl⟩ : ∃ m, k = m + 1 := ⟨k - 1, by omega⟩
    rw [wigwagref02_push.l0, if_neg (by omega), if_pos (by omega), List.drop_eq_nil_of_le (by omega)]
    simp
  | succ d ih =>
    intro j out k hj ho hk
    obtain ⟨k, rfl⟩ : ∃ m, k = m + 1 := ⟨k - 1, by omega⟩
    have hjl : j < l.length := by omega
    have hx := hl _ (List.getElem_mem hjl)
    rw [wigwagref02_push.l0, if_pos (by omega), if_pos (by omega), rd_at hjl, radd_eq hx.a hw, List.drop_eq_getElem_cons hjl, up hjl hn]
    simp only [Option.bind_some]
    have i1 := ih (j + 1) (out ++ [⟨l[j].f0, l[j].f1⟩]) k (by omega) (by simp; omega) (by omega)
    have i2 := ih (j + 1) out k (by omega) (by omega) (by omega)
    rw [i1, i2, if_pos (show out.length < 8796093022208 by omega)]
    cases g with
    | true =>
      rw [if_pos rfl]
      by_cases h1 : sadd l[j].f0 w ≥ s.f0
      · rw [if_pos h1]
        by_cases h2 : l[j].f1 > s.f1
        · rw [if_pos h2, List.filter_cons_of_pos (by unfold keep vof; simp; omega)]; simp
        · rw [if_neg h2, List.filter_cons_of_neg (by unfold keep vof; simp; omega)]
      · rw [if_neg h1, List.filter_cons_of_neg (by unfold keep vof; simp; omega)]
    | false =>
      rw [if_neg (by simp)]
      by_cases h1 : sadd l[j].f0 w ≥ s.f0
      · rw [if_pos h1]
        by_cases h2 : l[j].f1 < s.f1
        · rw [if_pos h2, List.filter_cons_of_pos (by unfold keep vof; simp; omega)]; simp
        · rw [if_neg h2, List.filter_cons_of_neg (by unfold keep vof; simp; omega)]
      · rw [if_neg h1, List.filter_cons_of_neg (by unfold keep vof; simp; omega)]
theorem pmax {k : Nat} (hk : l.length + 1 ≤ k) : filt_PushMax.f k l w s.f0 s.f1 = some (push true w s l) := by
  unfold filt_PushMax.f filt_kept_19.f
  rw [show (0 : Int) = ((0 : Nat) : Int) from rfl, kept_max hl hn hw l.length 0 [] k (by omega) (by simp; omega) (by omega)]
  simp [push]
theorem pmin {k : Nat} (hk : l.length + 1 ≤ k) : filt_PushMin.f k l w s.f0 s.f1 = some (push false w s l) := by
  unfold filt_PushMin.f filt_kept_22.f
  rw [show (0 : Int) = ((0 : Nat) : Int) from rfl, kept_min hl hn hw l.length 0 [] k (by omega) (by simp; omega) (by omega)]
  simp [push]
theorem rmax {k : Nat} (hk : l.length + 1 ≤ k) : wigwagref02_PushMax.f k l w s.f0 s.f1 = some (push true w s l) := by
  unfold wigwagref02_PushMax.f wigwagref02_push.f
  rw [show (0 : Int) = ((0 : Nat) : Int) from rfl, ref_push hl hn hw true l.length 0 [] k (by omega) (by simp; omega) (by omega)]
  simp [push]
theorem rmin {k : Nat} (hk : l.length + 1 ≤ k) : wigwagref02_PushMin.f k l w s.f0 s.f1 = some (push false w s l) := by
  unfold wigwagref02_PushMin.f wigwagref02_push.f
  rw [show (0 : Int) = ((0 : Nat) : Int) from rfl, ref_push hl hn hw false l.length 0 [] k (by omega) (by simp; omega) (by omega)]
  simp [push]
end
theorem push_ws {g : Bool} {w : Int} {s : S25} {l : List S25} (hl : ∀ x ∈ l, Ws x) (hs : Ws s) : ∀ x ∈ push g w s l, Ws x := by
  intro x hx
  unfold push at hx
  rcases List.mem_append.mp hx with h | h
  · exact hl _ (List.mem_filter.mp h).1
  · rw [List.mem_singleton.mp h]; exact hs
theorem push_len {g : Bool} {w : Int} {s : S25} {l : List S25} : (push g w s l).length ≤ l.length + 1 := by
  unfold push
  rw [List.length_append]
  have := List.length_filter_le (keep g w s) l
  simp; omega
theorem same_loop (l : List S25) (hn : l.length < 1000000) (d : Nat) : ∀ (j k : Nat), j + d = l.length → d + 1 ≤ k → wigwagref02_Same.l0 k l l (j : Int) = some true := by
  induction d with
  | zero =>
    intro j k hj hk
    obtain ⟨k, rfl⟩ : ∃ m, k = m + 1 := ⟨k - 1, by omega⟩
    rw [wigwagref02_Same.l0, if_neg (by omega)]
  | succ d ih =>
    intro j k hj hk
    obtain ⟨k, rfl⟩ : ∃ m, k = m + 1 := ⟨k - 1, by omega⟩
    rw [wigwagref02_Same.l0, if_pos (by omega), if_pos (by omega), if_pos (by omega), if_neg (by simp), up (show j < l.length by omega) hn, ih (j + 1) k (by omega) (by omega)]
theorem same_eq {l : List S25} (hn : l.length < 1000000) {k : Nat} (hk : l.length + 1 ≤ k) : wigwagref02_Same.f k l l = some true := by
  unfold wigwagref02_Same.f
  rw [if_pos rfl]
  exact same_loop l hn l.length 0 k (by omega) (by omega)
theorem awake_at : wigwaglaw02_awake.f 5 = some true := by decide +kernel
theorem awake_eq (k : Nat) (h : 5 ≤ k) : wigwaglaw02_awake.f k = some true := at_rounds wigwaglaw02_awake.mono h awake_at
theorem best_eq (l : List S25) : filt_Best.f l = some (l.headD z25).f1 := by
  unfold filt_Best.f
  cases l with
  | nil => rfl
  | cons x t => rw [if_neg (by simp; omega), if_pos (by simp)]; rfl
theorem rbest_eq (l : List S25) : wigwagref02_Best.f l = some (l.headD z25).f1 := best_eq l
end Go.Proofs.Ytmnpgcpejfkaaaa.Pure
