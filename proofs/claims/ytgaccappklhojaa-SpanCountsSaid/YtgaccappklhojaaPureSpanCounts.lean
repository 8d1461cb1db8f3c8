/- Adding and cutting change how many numbers there are by those that are new, and those that were in: for at most fifty spans, as numbers of 64 bits. -/
import Derived.Test.YtgaccappklhojaaXa
import Derived.Test.YtgaccappklhojaaStmSpanCounts
namespace Go.Proofs.Ytgaccappklhojaa.Pure
open Go.RowKit Go.Proofs.Ytgaccappklhojaa.P Go.Proofs.YtgaccappklhojaaW.PrintWords Go.Proofs.YtgaccappklhojaaW.PrintLast
set_option linter.unusedVariables false
theorem bd_of {l : List Sp} (hx : ∀ x ∈ l, (Lit.int .u64 x.f0).wf = true ∧ (Lit.int .u64 x.f1).wf = true) : ∀ s ∈ l, 0 ≤ s.f0 ∧ s.f1 ≤ ((18446744073709551615 : Nat) : Int) := fun s hs => by
  have h0 := wd_of (hx s hs).1
  have h1 := wd_of (hx s hs).2
  unfold Wd at h0 h1
  omega
theorem bothL_self {l : List Sp} (h : Ok l) : bothL l l (l.length + l.length) = l := by
  obtain ⟨o, m⟩ := bothL_ok _ h h (Nat.le_refl _)
  exact ok_ext o h (fun n => (m n).trans and_self_iff)
/-! How many numbers a set has: one by one. -/
def bit (b : Bool) : Int := if b then 1 else 0
def cnt (p : Int → Bool) : Nat → Int
  | 0 => 0
  | n + 1 => cnt p n + bit (p n)
theorem cnt_or (p q : Int → Bool) : ∀ n, cnt (fun x => p x || q x) n + cnt (fun x => p x && q x) n = cnt p n + cnt q n
  | 0 => rfl
  | n + 1 => by
    have h := cnt_or p q n
    have e : ∀ a b : Bool, bit (a || b) + bit (a && b) = bit a + bit b := by decide
    have := e (p n) (q n)
    show cnt (fun x => p x || q x) n + bit (p n || q n) + (cnt (fun x => p x && q x) n + bit (p n && q n)) = cnt p n + bit (p n) + (cnt q n + bit (q n))
    omega
theorem cnt_diff (p q : Int → Bool) : ∀ n, cnt (fun x => p x && !q x) n + cnt (fun x => p x && q x) n = cnt p n
  | 0 => rfl
  | n + 1 => by
    have h := cnt_diff p q n
    have e : ∀ a b : Bool, bit (a && !b) + bit (a && b) = bit a := by decide
    have := e (p n) (q n)
    show cnt (fun x => p x && !q x) n + bit (p n && !q n) + (cnt (fun x => p x && q x) n + bit (p n && q n)) = cnt p n + bit (p n)
    omega
theorem cnt_congr {p q : Int → Bool} (h : ∀ x : Int, 0 ≤ x → p x = q x) : ∀ n, cnt p n = cnt q n
  | 0 => rfl
  | n + 1 => by rw [cnt, cnt, cnt_congr h n, h n (by omega)]
theorem cnt_none {p : Int → Bool} (h : ∀ x : Int, p x = false) : ∀ n, cnt p n = 0
  | 0 => rfl
  | n + 1 => by rw [cnt, cnt_none h n, h n]; rfl
theorem cnt_span {a b : Int} (h0 : 0 ≤ a) (h1 : a ≤ b) : ∀ n : Nat, cnt (fun x => decide (a ≤ x ∧ x < b)) n = (if b < n then b else n) - (if a < n then a else n)
  | 0 => by simp only [cnt]; split <;> split <;> omega
  | n + 1 => by
    rw [cnt, cnt_span h0 h1 n]
    by_cases c : a ≤ (n : Int) ∧ (n : Int) < b
    · have e : bit (decide (a ≤ (n : Int) ∧ (n : Int) < b)) = 1 := by rw [decide_eq_true c]; rfl
      show _ + bit (decide (a ≤ (n : Int) ∧ (n : Int) < b)) = _
      rw [e]
      split <;> split <;> split <;> split <;> omega
    · have e : bit (decide (a ≤ (n : Int) ∧ (n : Int) < b)) = 0 := by rw [decide_eq_false c]; rfl
      show _ + bit (decide (a ≤ (n : Int) ∧ (n : Int) < b)) = _
      rw [e]
      split <;> split <;> split <;> split <;> omega
theorem total_cnt {N : Nat} : ∀ {l : List Sp}, Ok l → (∀ s ∈ l, 0 ≤ s.f0 ∧ s.f1 ≤ N) → total l = cnt (fun x => decide (Mem x l)) N := by
  intro l
  induction l with
  | nil => intro _ _; rw [cnt_none (fun x => decide_eq_false mem_nil)]; rfl
  | cons s t ih =>
    intro h hb
    obtain ⟨h1, h2, h3⟩ := ok_cons.mp h
    have hs := hb s (List.mem_cons_self ..)
    have e := ih h3 (fun u hu => hb u (List.mem_cons_of_mem _ hu))
    have k := cnt_or (fun x => decide (s.f0 ≤ x ∧ x < s.f1)) (fun x => decide (Mem x t)) N
    rw [cnt_none (p := fun x => decide (s.f0 ≤ x ∧ x < s.f1) && decide (Mem x t)) (fun x => by
      by_cases c : Mem x t
      · obtain ⟨u, hu, q⟩ := c
        have := h2 u hu
        rw [decide_eq_false (p := s.f0 ≤ x ∧ x < s.f1) (by omega)]; rfl
      · rw [decide_eq_false c, Bool.and_false]), cnt_span hs.1 (by omega) N] at k
    rw [total_cons, e, cnt_congr (p := fun x => decide (Mem x (s :: t))) (q := fun x => decide (s.f0 ≤ x ∧ x < s.f1) || decide (Mem x t)) (fun x _ => by
      rw [← Bool.decide_or]
      exact decide_eq_decide.mpr mem_cons)]
    have e1 : (if s.f1 < (N : Int) then s.f1 else (N : Int)) = s.f1 := by split <;> omega
    have e0 : (if s.f0 < (N : Int) then s.f0 else (N : Int)) = s.f0 := by split <;> omega
    rw [e1, e0] at k
    omega
theorem ok_bd {N : Int} {m : List Sp} (h : Ok m) (hm : ∀ n, Mem n m → 0 ≤ n ∧ n < N) : ∀ s ∈ m, 0 ≤ s.f0 ∧ s.f1 ≤ N := by
  intro s hs
  have h1 := h.1 s hs
  have h2 := hm s.f0 (ok_mem h hs)
  have h3 := hm (s.f1 - 1) ⟨s, hs, by omega, by omega⟩
  omega
theorem mem_bd {N n : Int} {l : List Sp} (hb : ∀ s ∈ l, 0 ≤ s.f0 ∧ s.f1 ≤ N) (h : Mem n l) : 0 ≤ n ∧ n < N := by
  obtain ⟨s, hs, q⟩ := h
  have := hb s hs
  omega
/-- What is in one or the other, what is in both; what is cut. -/
theorem total_add {N : Nat} {l m c u : List Sp} {a b : Int} (hl : Ok l) (hm : Ok m) (hc : Ok c) (hu : Ok u) (hb : ∀ s ∈ l, 0 ≤ s.f0 ∧ s.f1 ≤ N) (h0 : 0 ≤ a) (hab : a < b) (h1 : b ≤ N)
    (mm : ∀ n, Mem n m ↔ Mem n l ∨ (a ≤ n ∧ n < b)) (mc : ∀ n, Mem n c ↔ Mem n l ∧ ¬ (a ≤ n ∧ n < b)) (mu : ∀ n, Mem n u ↔ Mem n l ∧ (a ≤ n ∧ n < b)) :
    total m + total u = total l + (b - a) ∧ total c + total u = total l ∧ 0 ≤ total m ∧ total m ≤ N ∧ 0 ≤ total u ∧ 0 ≤ total c := by
  have bl := fun n (h : Mem n l) => mem_bd (N := N) hb h
  have e1 := total_cnt hl hb
  have e2 := total_cnt (N := N) hm (ok_bd hm (fun n h => by rcases (mm n).mp h with q | q; exact bl n q; omega))
  have e3 := total_cnt (N := N) hc (ok_bd hc (fun n h => bl n ((mc n).mp h).1))
  have e4 := total_cnt (N := N) hu (ok_bd hu (fun n h => bl n ((mu n).mp h).1))
  have k1 := cnt_or (fun x => decide (Mem x l)) (fun x => decide (a ≤ x ∧ x < b)) N
  have k2 := cnt_diff (fun x => decide (Mem x l)) (fun x => decide (a ≤ x ∧ x < b)) N
  have k3 := cnt_span h0 (Int.le_of_lt hab) N
  have f1 : (if b < (N : Int) then b else (N : Int)) = b := by split <;> omega
  have f0 : (if a < (N : Int) then a else (N : Int)) = a := by split <;> omega
  rw [f1, f0] at k3
  have g2 := cnt_congr (p := fun x => decide (Mem x m)) (q := fun x => decide (Mem x l) || decide (a ≤ x ∧ x < b)) (fun x _ => by rw [← Bool.decide_or]; exact decide_eq_decide.mpr (mm x)) N
  have g4 := cnt_congr (p := fun x => decide (Mem x u)) (q := fun x => decide (Mem x l) && decide (a ≤ x ∧ x < b)) (fun x _ => by rw [← Bool.decide_and]; exact decide_eq_decide.mpr (mu x)) N
  have g3 := cnt_congr (p := fun x => decide (Mem x c)) (q := fun x => decide (Mem x l) && !decide (a ≤ x ∧ x < b)) (fun x _ => by rw [← decide_not, ← Bool.decide_and]; exact decide_eq_decide.mpr (mc x)) N
  have pos : ∀ (p : Int → Bool) (n : Nat), 0 ≤ cnt p n ∧ cnt p n ≤ n := by
    intro p n
    induction n with
    | zero => simp [cnt]
    | succ n ih => have h : bit (p n) = 0 ∨ bit (p n) = 1 := by (cases p n <;> simp [bit])
                   rw [cnt]; omega
  have p1 := pos (fun x => decide (Mem x m)) N
  have p2 := pos (fun x => decide (Mem x u)) N
  have p3 := pos (fun x => decide (Mem x c)) N
  omega
theorem SpanCounts : wigwaglaw07_SpanCounts.Pure := by
  intro l0 a b hl hx ha hb
  have bd0 := bd_of hx
  refine ⟨1000, ?_⟩
  unfold wigwaglaw07_SpanCounts.f
  rw [awake_eq 1000 (by decide), Option.bind_some, few_eq, Option.bind_some]
  by_cases c0 : (l0.length : Int) ≤ 50
  · rw [decide_eq_true c0, if_pos rfl, check_eq (by omega) (by omega), Option.bind_some]
    by_cases o0 : Ok l0
    · rw [decide_eq_true o0, if_pos rfl]
      by_cases h : b ≤ a
      · rw [decide_eq_true (show a ≥ b from h), wigwaglaw07_SpanCounts.j0, if_pos rfl]
      · have p3 := addS_len l0 a b
        have p4 := cutS_len l0 a b
        have p5 := bothL_len (l0.length + 1) l0 [(⟨a, b⟩ : Sp)]
        obtain ⟨ox, mx_⟩ := addS_ok (a := a) (b := b) o0
        obtain ⟨oy, my⟩ := cutS_ok (a := a) (b := b) o0
        obtain ⟨oz, mz⟩ := bothL_ok (l0.length + 1) o0 (ok_one (s := (⟨a, b⟩ : Sp)) (show a < b by omega)) (Nat.le_refl _)
        have h0 := wd_of ha
        have h1 := wd_of hb
        unfold Wd at h0 h1
        have k := total_add (N := 18446744073709551615) o0 ox oy oz bd0 h0.1 (by omega) (by omega) mx_ my (fun n => by rw [mz n, mem_one])
        have k5 : 0 ≤ total l0 := by omega
        rw [decide_eq_false (show ¬ a ≥ b from h), wigwaglaw07_SpanCounts.j0, if_neg (by simp), both_eq (by simp; omega) (by simp; omega), Option.bind_some]
        show ((span_Size.f 999 (bothL l0 [(⟨a, b⟩ : Sp)] (l0.length + 1))).bind _) = _
        rw [size_eq (by omega) (by omega), Option.bind_some, add_eq (by omega) (by omega), Option.bind_some, size_eq (by omega) (by omega), Option.bind_some, cut_eq (by omega), Option.bind_some, size_eq (by omega) (by omega), Option.bind_some, if_pos rfl, size_eq (by omega) (by omega), Option.bind_some, wrapu, wrapu, wrapu]
        generalize total (addS l0 a b) = tx at *
        generalize total (cutS l0 a b) = ty at *
        generalize total (bothL l0 [(⟨a, b⟩ : Sp)] (l0.length + 1)) = tz at *
        generalize total l0 = t0 at *
        rw [if_pos (by omega), Option.bind_some, wrapu]
        congr 1
        rw [beq_iff_eq]
        omega
    · rw [decide_eq_false o0, if_neg (by simp), wigwaglaw07_SpanCounts.j0, if_pos rfl]
  · rw [decide_eq_false c0, if_neg (by simp), wigwaglaw07_SpanCounts.j0, if_pos rfl]
end Go.Proofs.Ytgaccappklhojaa.Pure
