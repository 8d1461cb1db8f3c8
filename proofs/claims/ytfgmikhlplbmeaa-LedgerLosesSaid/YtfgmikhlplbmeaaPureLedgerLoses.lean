/- What is lost, and when the next is, are the reference's; and a long loss: the least time of a run stands for all times of the run. -/
import Derived.Test.YtfgmikhlplbmeaaXa
import Derived.Test.YtfgmikhlplbmeaaStmLedgerLoses
namespace Go.Proofs.Ytfgmikhlplbmeaa.Pure
open Go.RowKit Go.Proofs.Ytfgmikhlplbmeaa.P Go.Proofs.YtfgmikhlplbmeaaW.PrintWords Go.Proofs.YtfgmikhlplbmeaaW.PrintLast
set_option linter.unusedSectionVars false
set_option linter.unusedVariables false
def longI (time : Int) : S37 → Int → List S37 → Bool
  | _, _, [] => false
  | p, m, x :: t => if x.f0 = sadd p.f0 1 then (if x.f1 ≥ sadd m time then true else longI time x (min m x.f1) t) else longI time x x.f1 t
def runR (time a : Int) : S37 → List S37 → Bool
  | _, [] => false
  | p, x :: t => if x.f0 = sadd p.f0 1 then (if x.f1 ≥ sadd a time then true else runR time a x t) else false
def longR (time : Int) : List S37 → Bool
  | [] => false
  | x :: t => runR time x.f1 x t || longR time t
theorem run_min (time a b : Int) : ∀ (t : List S37) (p : S37), runR time (min a b) p t = (runR time a p t || runR time b p t)
  | [], p => rfl
  | x :: t, p => by
    have ih := run_min time a b t x
    rw [runR, runR, runR, ih]
    by_cases h : x.f0 = sadd p.f0 1
    · rw [if_pos h, if_pos h, if_pos h]
      have hm : (x.f1 ≥ sadd (min a b) time) ↔ (x.f1 ≥ sadd a time ∨ x.f1 ≥ sadd b time) := by
        unfold sadd
        rcases Int.le_total a b with q | q
        · rw [Int.min_eq_left q]; split <;> split <;> omega
        · rw [Int.min_eq_right q]; split <;> split <;> omega
      by_cases h1 : x.f1 ≥ sadd a time
      · rw [if_pos (hm.mpr (.inl h1)), if_pos h1, Bool.true_or]
      · rw [if_neg h1]
        by_cases h2 : x.f1 ≥ sadd b time
        · rw [if_pos (hm.mpr (.inr h2)), if_pos h2, Bool.or_true]
        · rw [if_neg (fun q => (hm.mp q).elim h1 h2), if_neg h2]
    · rw [if_neg h, if_neg h, if_neg h, Bool.or_false]
theorem long_run (time : Int) : ∀ (t : List S37) (p : S37) (m : Int), longI time p m t = (runR time m p t || longR time t)
  | [], p, m => rfl
  | x :: t, p, m => by
    have i1 := long_run time t x (min m x.f1)
    have i2 := long_run time t x x.f1
    rw [longI, runR, longR, i1, i2, run_min]
    by_cases h : x.f0 = sadd p.f0 1
    · rw [if_pos h, if_pos h]
      by_cases h1 : x.f1 ≥ sadd m time
      · rw [if_pos h1, if_pos h1, Bool.true_or]
      · rw [if_neg h1, if_neg h1, Bool.or_assoc]
    · rw [if_neg h, if_neg h, Bool.false_or]
section
variable {l : List S37} (hl : ∀ x ∈ l, Ws x) (hn : l.length < 1000000) {time : Int} (ht : Wd time)
include hl hn ht
theorem long_loop (d : Nat) : ∀ (j k : Nat) (m : Int) (hj0 : j < l.length), Wd m → j + 1 + d = l.length → 2 * d + 1 ≤ k → ledger_Long.l0 k l time m l (l.length : Int) ((j + 1 : Nat) : Int) = some (longI time l[j] m (l.drop (j + 1))) := by
  induction d with
  | zero =>
    intro j k m hj0 hm hj hk
    obtain ⟨k, rfl⟩ : ∃ m, k = m + 1 := ⟨k - 1, by omega⟩
    rw [ledger_Long.l0, if_neg (by omega), List.drop_eq_nil_of_le (by omega)]
    rfl
  | succ d ih =>
    intro j k m hj0 hm hj hk
    obtain ⟨k, rfl⟩ : ∃ m, k = m + 2 := ⟨k - 2, by omega⟩
    have hjl : j + 1 < l.length := by omega
    have hx := hl _ (List.getElem_mem hjl)
    have hp := hl _ (List.getElem_mem hj0)
    rw [ledger_Long.l0, if_pos (by omega), if_pos (by omega), if_pos (by omega), if_neg (by omega), dn hj0 hn, if_pos (by omega), if_pos (by omega), rd_at hjl, rd_at hj0, add_eq hp.n one_wd, List.drop_eq_getElem_cons hjl, longI]
    simp only [Option.bind_some]
    rw [ledger_Long.j1, up hjl hn, add_eq hm ht]
    simp only [Option.bind_some]
    by_cases h : l[j + 1].f0 = sadd l[j].f0 1
    · rw [if_neg (by simp [h]), if_pos h, mn_eq]
      by_cases h1 : l[j + 1].f1 ≥ sadd m time
      · rw [if_pos h1, if_pos h1]
      · rw [if_neg h1, if_neg h1]
        exact ih (j + 1) k _ hjl ⟨by have := hm.1; have := hx.a.1; omega, by have := hm.2; omega⟩ (by omega) (by omega)
    · rw [if_pos (by simp [h]), if_neg h]
      exact ih (j + 1) k _ hjl hx.a (by omega) (by omega)
theorem long_eq {k : Nat} (hk : 2 * l.length + 3 ≤ k) : ledger_Long.f k l time = some (longR time l) := by
  unfold ledger_Long.f
  obtain ⟨k, rfl⟩ : ∃ m, k = m + 2 := ⟨k - 2, by omega⟩
  by_cases h0 : l.length = 0
  · rw [ledger_Long.l0, if_neg (by omega), List.eq_nil_of_length_eq_zero h0]
    rfl
  · have hj : 0 < l.length := by omega
    have hx := hl _ (List.getElem_mem hj)
    have r0 := rd_at hj
    rw [show ((0 : Nat) : Int) = 0 from rfl] at r0
    rw [ledger_Long.l0, if_pos (by omega), if_pos (by omega), if_pos (by omega), if_pos rfl, ledger_Long.j1, if_pos rfl, r0]
    have e := long_loop hl hn ht (l.length - 1) 0 k l[0].f1 hj hx.a (by omega) (by omega)
    rw [show wrap64 (0 + 1) = ((0 + 1 : Nat) : Int) from up hj hn, e, long_run]
    congr 1
    have d0 := List.drop_eq_getElem_cons hj
    rw [List.drop_zero] at d0
    conv => rhs; rw [d0, longR]
theorem run_loop (i : Nat) (hi : i < l.length) (rest : Bool) (K : Nat) (hrest : ∀ k, K ≤ k → wigwagref09_Long.l0 k l time ((i + 1 : Nat) : Int) = some rest) (d : Nat) :
    ∀ (j k : Nat) (hj0 : j < l.length), j + 1 + d = l.length → 2 * d + 2 + K ≤ k → wigwagref09_Long.l1 k l time (i : Int) ((j + 1 : Nat) : Int) = some (runR time l[i].f1 l[j] (l.drop (j + 1)) || rest) := by
  have hi' := hl _ (List.getElem_mem hi)
  induction d with
  | zero =>
    intro j k hj0 hj hk
    obtain ⟨k, rfl⟩ : ∃ m, k = m + 2 := ⟨k - 2, by omega⟩
    rw [wigwagref09_Long.l1, if_neg (by omega), wigwagref09_Long.j2, if_neg (by simp), up hi hn, hrest k (by omega), List.drop_eq_nil_of_le (by omega), runR, Bool.false_or]
  | succ d ih =>
    intro j k hj0 hj hk
    obtain ⟨k, rfl⟩ : ∃ m, k = m + 2 := ⟨k - 2, by omega⟩
    have hjl : j + 1 < l.length := by omega
    have hx := hl _ (List.getElem_mem hjl)
    have hp := hl _ (List.getElem_mem hj0)
    rw [wigwagref09_Long.l1, if_pos (by omega), if_pos (by omega), dn hj0 hn, if_pos (by omega), if_pos (by omega), rd_at hjl, rd_at hj0, radd_eq hp.n one_wd, List.drop_eq_getElem_cons hjl, runR]
    simp only [Option.bind_some]
    rw [wigwagref09_Long.j2]
    by_cases h : l[j + 1].f0 = sadd l[j].f0 1
    · rw [if_pos (by simp [h]), if_pos h, if_pos (by omega), if_pos (by omega), if_pos (by omega), if_pos (by omega), rd_at hi, rd_at hjl, radd_eq hi'.a ht]
      simp only [Option.bind_some]
      by_cases h1 : l[j + 1].f1 ≥ sadd l[i].f1 time
      · rw [if_pos h1, if_pos h1, Bool.true_or]
      · rw [if_neg h1, if_neg h1, up hjl hn]
        exact ih (j + 1) k hjl (by omega) (by omega)
    · rw [if_neg (by simp [h]), if_neg h, up hi hn, hrest k (by omega), Bool.false_or]
theorem rlong_loop (d : Nat) : ∀ (j k : Nat), j + d = l.length → d * (2 * l.length + 5) + 1 ≤ k → wigwagref09_Long.l0 k l time (j : Int) = some (longR time (l.drop j)) := by
  induction d with
  | zero =>
    intro j k hj hk
    obtain ⟨k, rfl⟩ : ∃ m, k = m + 1 := ⟨k - 1, by omega⟩
    rw [wigwagref09_Long.l0, if_neg (by omega), List.drop_eq_nil_of_le (by omega)]
    rfl
  | succ d ih =>
    intro j k hj hk
    obtain ⟨k, rfl⟩ : ∃ m, k = m + 1 := ⟨k - 1, by omega⟩
    have hjl : j < l.length := by omega
    have hm : (d + 1) * (2 * l.length + 5) = d * (2 * l.length + 5) + (2 * l.length + 5) := by rw [Nat.add_mul]; omega
    rw [wigwagref09_Long.l0, if_pos (by omega), up hjl hn, List.drop_eq_getElem_cons hjl, longR]
    exact run_loop hl hn ht j hjl _ (d * (2 * l.length + 5) + 1) (fun k hk => ih (j + 1) k (by omega) hk) (l.length - j - 1) j k hjl (by omega) (by omega)
theorem rlong_eq {k : Nat} (hk : l.length * (2 * l.length + 5) + 1 ≤ k) : wigwagref09_Long.f k l time = some (longR time l) := by
  unfold wigwagref09_Long.f
  exact rlong_loop hl hn ht l.length 0 k (by omega) hk
end
theorem LedgerLoses : wigwaglaw09_LedgerLoses.Pure := by
  intro l nx now late time hl hx hnx hnow hlate htime
  have hL : ∀ x ∈ l, Ws x := fun x h => ⟨wd_of (hx x h).1, wd_of (hx x h).2.1, wd_of (hx x h).2.2.1⟩
  have hla := wd_of hlate
  have hti := wd_of htime
  refine ⟨10000, ?_⟩
  unfold wigwaglaw09_LedgerLoses.f
  rw [awake_eq 10000 (by omega), few_eq]
  simp only [Option.bind_some]
  by_cases hn : (l.length : Int) ≤ 50
  · have h3 := List.length_filter_le (gone nx now late) l
    have h4 := List.length_filter_le (fun x => !gone nx now late x) l
    have hq : l.length * (2 * l.length + 5) ≤ 50 * (2 * l.length + 5) := Nat.mul_le_mul_right _ (by omega)
    rw [if_pos (by simpa using hn), lost_eq hL (by omega) hla (by omega), rlost_eq hL (by omega) hla (by omega)]
    simp only [Option.bind_some]
    rw [same_eq (by omega) (by omega), same_eq (by omega) (by omega), long_eq hL (by omega) hti (by omega), rlong_eq hL (by omega) hti (by omega)]
    simp
  · rw [if_neg (by simpa using hn)]
end Go.Proofs.Ytfgmikhlplbmeaa.Pure
