/- Numbers that are added one by one are just those that are in. -/
import Derived.Test.YtgaccappklhojaaXa
import Derived.Test.YtgaccappklhojaaStmSpanMany
import Derived.Test.YtgaccappklhojaaPx13
namespace Go.Proofs.Ytgaccappklhojaa.Pure
open Go.RowKit Go.Proofs.Ytgaccappklhojaa.P Go.Proofs.YtgaccappklhojaaW.PrintWords Go.Proofs.YtgaccappklhojaaW.PrintLast
set_option linter.unusedVariables false
/-! How many numbers a set has: one by one. -/
def bit (b : Bool) : Int := if b then 1 else 0
def cnt (p : Int → Bool) : Nat → Int
  | 0 => 0
  | n + 1 => cnt p n + bit (p n)
theorem cnt_or (p q : Int → Bool) : ∀ n, cnt (fun x => p x || q x) n + cnt (fun x => p x && q x) n = cnt p n + cnt q n
  | 0 => rfl
  | n + 1 => by
    have h := cnt_or p q n
    have e : ∀ a b : Bool, bit (a || b) + bit (a && b) = bit a + bit b := by decide
    have := e (p n) (q n)
    show cnt (fun x => p x || q x) n + bit (p n || q n) + (cnt (fun x => p x && q x) n + bit (p n && q n)) = cnt p n + bit (p n) + (cnt q n + bit (q n))
    omega
theorem cnt_diff (p q : Int → Bool) : ∀ n, cnt (fun x => p x && !q x) n + cnt (fun x => p x && q x) n = cnt p n
  | 0 => rfl
  | n + 1 => by
    have h := cnt_diff p q n
    have e : ∀ a b : Bool, bit (a && !b) + bit (a && b) = bit a := by decide
    have := e (p n) (q n)
    show cnt (fun x => p x && !q x) n + bit (p n && !q n) + (cnt (fun x => p x && q x) n + bit (p n && q n)) = cnt p n + bit (p n)
    omega
theorem cnt_congr {p q : Int → Bool} (h : ∀ x : Int, 0 ≤ x → p x = q x) : ∀ n, cnt p n = cnt q n
  | 0 => rfl
  | n + 1 => by rw [cnt, cnt, cnt_congr h n, h n (by omega)]
theorem cnt_none {p : Int → Bool} (h : ∀ x : Int, p x = false) : ∀ n, cnt p n = 0
  | 0 => rfl
  | n + 1 => by rw [cnt, cnt_none h n, h n]; rfl
theorem cnt_span {a b : Int} (h0 : 0 ≤ a) (h1 : a ≤ b) : ∀ n : Nat, cnt (fun x => decide (a ≤ x ∧ x < b)) n = (if b < n then b else n) - (if a < n then a else n)
  | 0 => by simp only [cnt]; split <;> split <;> omega
  | n + 1 => by
    rw [cnt, cnt_span h0 h1 n]
    by_cases c : a ≤ (n : Int) ∧ (n : Int) < b
    · have e : bit (decide (a ≤ (n : Int) ∧ (n : Int) < b)) = 1 := by rw [decide_eq_true c]; rfl
      show _ + bit (decide (a ≤ (n : Int) ∧ (n : Int) < b)) = _
      rw [e]
      split <;> split <;> split <;> split <;> omega
    · have e : bit (decide (a ≤ (n : Int) ∧ (n : Int) < b)) = 0 := by rw [decide_eq_false c]; rfl
      show _ + bit (decide (a ≤ (n : Int) ∧ (n : Int) < b)) = _
      rw [e]
      split <;> split <;> split <;> split <;> omega
theorem total_cnt {N : Nat} : ∀ {l : List Sp}, Ok l → (∀ s ∈ l, 0 ≤ s.f0 ∧ s.f1 ≤ N) → total l = cnt (fun x => decide (Mem x l)) N := by
  intro l
  induction l with
  | nil => intro _ _; rw [cnt_none (fun x => decide_eq_false mem_nil)]; rfl
  | cons s t ih =>
    intro h hb
    obtain ⟨h1, h2, h3⟩ := ok_cons.mp h
    have hs := hb s (List.mem_cons_self ..)
    have e := ih h3 (fun u hu => hb u (List.mem_cons_of_mem _ hu))
    have k := cnt_or (fun x => decide (s.f0 ≤ x ∧ x < s.f1)) (fun x => decide (Mem x t)) N
    rw [cnt_none (p := fun x => decide (s.f0 ≤ x ∧ x < s.f1) && decide (Mem x t)) (fun x => by
      by_cases c : Mem x t
      · obtain ⟨u, hu, q⟩ := c
        have := h2 u hu
        rw [decide_eq_false (p := s.f0 ≤ x ∧ x < s.f1) (by omega)]; rfl
      · rw [decide_eq_false c, Bool.and_false]), cnt_span hs.1 (by omega) N] at k
    rw [total_cons, e, cnt_congr (p := fun x => decide (Mem x (s :: t))) (q := fun x => decide (s.f0 ≤ x ∧ x < s.f1) || decide (Mem x t)) (fun x _ => by
      rw [← Bool.decide_or]
      exact decide_eq_decide.mpr mem_cons)]
    have e1 : (if s.f1 < (N : Int) then s.f1 else (N : Int)) = s.f1 := by split <;> omega
    have e0 : (if s.f0 < (N : Int) then s.f0 else (N : Int)) = s.f0 := by split <;> omega
    rw [e1, e0] at k
    omega
theorem ok_bd {N : Int} {m : List Sp} (h : Ok m) (hm : ∀ n, Mem n m → 0 ≤ n ∧ n < N) : ∀ s ∈ m, 0 ≤ s.f0 ∧ s.f1 ≤ N := by
  intro s hs
  have h1 := h.1 s hs
  have h2 := hm s.f0 (ok_mem h hs)
  have h3 := hm (s.f1 - 1) ⟨s, hs, by omega, by omega⟩
  omega
theorem mem_bd {N n : Int} {l : List Sp} (hb : ∀ s ∈ l, 0 ≤ s.f0 ∧ s.f1 ≤ N) (h : Mem n l) : 0 ≤ n ∧ n < N := by
  obtain ⟨s, hs, q⟩ := h
  have := hb s hs
  omega
/-- What is in one or the other, what is in both; what is cut. -/
theorem total_add {N : Nat} {l m c u : List Sp} {a b : Int} (hl : Ok l) (hm : Ok m) (hc : Ok c) (hu : Ok u) (hb : ∀ s ∈ l, 0 ≤ s.f0 ∧ s.f1 ≤ N) (h0 : 0 ≤ a) (hab : a < b) (h1 : b ≤ N)
    (mm : ∀ n, Mem n m ↔ Mem n l ∨ (a ≤ n ∧ n < b)) (mc : ∀ n, Mem n c ↔ Mem n l ∧ ¬ (a ≤ n ∧ n < b)) (mu : ∀ n, Mem n u ↔ Mem n l ∧ (a ≤ n ∧ n < b)) :
    total m + total u = total l + (b - a) ∧ total c + total u = total l ∧ 0 ≤ total m ∧ total m ≤ N ∧ 0 ≤ total u ∧ 0 ≤ total c := by
  have bl := fun n (h : Mem n l) => mem_bd (N := N) hb h
  have e1 := total_cnt hl hb
  have e2 := total_cnt (N := N) hm (ok_bd hm (fun n h => by rcases (mm n).mp h with q | q; exact bl n q; omega))
  have e3 := total_cnt (N := N) hc (ok_bd hc (fun n h => bl n ((mc n).mp h).1))
  have e4 := total_cnt (N := N) hu (ok_bd hu (fun n h => bl n ((mu n).mp h).1))
  have k1 := cnt_or (fun x => decide (Mem x l)) (fun x => decide (a ≤ x ∧ x < b)) N
  have k2 := cnt_diff (fun x => decide (Mem x l)) (fun x => decide (a ≤ x ∧ x < b)) N
  have k3 := cnt_span h0 (Int.le_of_lt hab) N
  have f1 : (if b < (N : Int) then b else (N : Int)) = b := by split <;> omega
  have f0 : (if a < (N : Int) then a else (N : Int)) = a := by split <;> omega
  rw [f1, f0] at k3
  have g2 := cnt_congr (p := fun x => decide (Mem x m)) (q := fun x => decide (Mem x l) || decide (a ≤ x ∧ x < b)) (fun x _ => by rw [← Bool.decide_or]; exact decide_eq_decide.mpr (mm x)) N
  have g4 := cnt_congr (p := fun x => decide (Mem x u)) (q := fun x => decide (Mem x l) && decide (a ≤ x ∧ x < b)) (fun x _ => by rw [← Bool.decide_and]; exact decide_eq_decide.mpr (mu x)) N
  have g3 := cnt_congr (p := fun x => decide (Mem x c)) (q := fun x => decide (Mem x l) && !decide (a ≤ x ∧ x < b)) (fun x _ => by rw [← decide_not, ← Bool.decide_and]; exact decide_eq_decide.mpr (mc x)) N
  have pos : ∀ (p : Int → Bool) (n : Nat), 0 ≤ cnt p n ∧ cnt p n ≤ n := by
    intro p n
    induction n with
    | zero => simp [cnt]
    | succ n ih => have h : bit (p n) = 0 ∨ bit (p n) = 1 := by (cases p n <;> simp [bit])
                   rw [cnt]; omega
  have p1 := pos (fun x => decide (Mem x m)) N
  have p2 := pos (fun x => decide (Mem x u)) N
  have p3 := pos (fun x => decide (Mem x c)) N
  omega
theorem cnt_le (p : Int → Bool) (n : Nat) : 0 ≤ cnt p n ∧ cnt p n ≤ n := by
  induction n with
  | zero => simp [cnt]
  | succ n ih =>
    have h : bit (p n) = 0 ∨ bit (p n) = 1 := by (cases p n <;> simp [bit])
    rw [cnt]
    omega
def Inv (s : List Sp) (seen : List Bool) (c : Int) (m : Nat) : Prop := Ok s ∧ s.length ≤ m ∧ seen.length = 256 ∧ total s = c ∧ (∀ n, Mem n s → 0 ≤ n ∧ n < 256) ∧ ∀ n : Int, 0 ≤ n → n < 256 → (Mem n s ↔ seen.getD n.toNat false = true)
theorem inv_step {s : List Sp} {seen : List Bool} {c x : Int} {m : Nat} (h : Inv s seen c m) (h0 : 0 ≤ x) (h1 : x ≤ 255) : (seen.getD x.toNat false = true → Inv (addS s x (x + 1)) seen c (m + 1)) ∧ (¬ seen.getD x.toNat false = true → Inv (addS s x (x + 1)) (seen.set x.toNat true) (c + 1) (m + 1)) := by
  obtain ⟨ok, hl, hs, ht, hb, hm⟩ := h
  obtain ⟨oa, ma⟩ := addS_ok (a := x) (b := x + 1) ok
  have hla := addS_len s x (x + 1)
  have hba : ∀ n, Mem n (addS s x (x + 1)) → 0 ≤ n ∧ n < 256 := by
    intro n hn
    rcases (ma n).mp hn with h | h
    · exact hb n h
    · omega
  constructor
  · intro hx
    have hin := (hm x h0 (by omega)).mpr hx
    have e : addS s x (x + 1) = s := ok_ext oa ok (fun n => by
      rw [ma n]
      constructor
      · rintro (h | h)
        · exact h
        · have : n = x := by omega
          rw [this]
          exact hin
      · exact fun h => .inl h)
    rw [e]
    exact ⟨ok, by omega, hs, ht, hb, hm⟩
  · intro hx
    have hnin : ¬ Mem x s := fun h => hx ((hm x h0 (by omega)).mp h)
    obtain ⟨oc, mc⟩ := cutS_ok (a := x) (b := x + 1) ok
    have mu : ∀ n, Mem n ([] : List Sp) ↔ Mem n s ∧ (x ≤ n ∧ n < x + 1) := by
      intro n
      constructor
      · exact fun h => absurd h mem_nil
      · intro h
        have e : n = x := by omega
        rw [e] at h
        exact absurd h.1 hnin
    have k := total_add (N := 256) (l := s) (m := addS s x (x + 1)) (c := cutS s x (x + 1)) (u := []) (a := x) (b := x + 1) ok oa oc ok_nil (fun u hu => ok_bd (N := 256) ok hb u hu) h0 (by omega) (by omega) ma mc mu
    have kz : total ([] : List Sp) = 0 := rfl
    rw [kz] at k
    refine ⟨oa, by omega, by rw [List.length_set]; exact hs, by omega, hba, fun n hn0 hn1 => ?_⟩
    rw [ma n, hm n hn0 hn1, List.getD_eq_getElem?_getD, List.getD_eq_getElem?_getD, List.getElem?_set]
    by_cases e : x.toNat = n.toNat
    · rw [if_pos e, if_pos (by omega)]
      have : n = x := by omega
      simp [this]
      omega
    · rw [if_neg e]
      constructor
      · rintro (h | h)
        · exact h
        · exact absurd (by omega) e
      · exact fun h => .inl h
theorem go_some {k : Nat} (hk : 200 ≤ k) : ∀ (l : List Int) (s : List Sp) (seen : List Bool) (c : Int) (m : Nat), (∀ x ∈ l, 0 ≤ x ∧ x ≤ 255) → m + l.length ≤ 100 → Inv s seen c m → ∃ s9 seen9 c9, wigwaglaw07_SpanMany.go k l s seen c = some (s9, seen9, c9) ∧ Inv s9 seen9 c9 100 := by
  intro l
  induction l with
  | nil =>
    intro s seen c m _ hm h
    refine ⟨s, seen, c, rfl, h.1, ?_, h.2.2⟩
    have := h.2.1
    simp at hm
    omega
  | cons x t ih =>
    intro s seen c m hx hm h
    have hb := hx x (List.mem_cons_self ..)
    simp only [List.length_cons] at hm
    have hl := h.2.1
    rw [wigwaglaw07_SpanMany.go, add_eq (by omega) (by omega), Option.bind_some]
    obtain ⟨p, q⟩ := inv_step h hb.1 hb.2
    by_cases e : seen.getD x.toNat false = true
    · rw [if_pos e]
      exact ih _ _ _ (m + 1) (fun y hy => hx y (List.mem_cons_of_mem _ hy)) (by omega) (p e)
    · rw [if_neg e]
      exact ih _ _ _ (m + 1) (fun y hy => hx y (List.mem_cons_of_mem _ hy)) (by omega) (q e)
theorem u8_bd {x : Int} (h : (Lit.int .u8 x).wf = true) : 0 ≤ x ∧ x ≤ 255 := by
  simp [Lit.wf, IntKind.min, IntKind.max, IntKind.signed, IntKind.bits] at h
  omega
theorem SpanMany : wigwaglaw07_SpanMany.Pure := by
  intro l0 a1 _ hx h1
  have hb : ∀ x ∈ l0, 0 ≤ x ∧ x ≤ 255 := fun x hm => u8_bd (hx x hm)
  have ha := u8_bd h1
  refine ⟨1000, ?_⟩
  unfold wigwaglaw07_SpanMany.f
  rw [awake_eq 1000 (by decide), Option.bind_some, if_pos ⟨rfl, fun i hi => by
    unfold rdOf
    rw [Int.toNat_natCast, List.getD_eq_getElem?_getD, List.getElem?_eq_getElem hi]
    exact hb _ (List.getElem_mem hi), ha.1, ha.2⟩]
  have hi : Inv [] (List.replicate 256 false) 0 0 := by
    refine ⟨ok_nil, Nat.le_refl _, List.length_replicate, rfl, fun n h => absurd h mem_nil, fun n h0 h1 => ⟨fun h => absurd h mem_nil, fun h => ?_⟩⟩
    rw [List.getD_eq_getElem?_getD, List.getElem?_replicate] at h
    split at h <;> simp at h
  obtain ⟨s, seen, c, hg, ok, hl, hs, ht, hm, hq⟩ := go_some (k := 1000) (by decide) (l0.take 60) [] (List.replicate 256 false) 0 0 (fun x hx => hb x (List.mem_of_mem_take hx)) (by rw [List.length_take]; omega) hi
  have hcnt : 0 ≤ total s ∧ total s ≤ 256 := by
    have e := total_cnt (N := 256) ok (fun u hu => ok_bd (N := 256) ok hm u hu)
    rw [e]
    exact cnt_le _ _
  rw [hg, Option.bind_some, check_eq (l := s) (by omega) (by omega), decide_eq_true ok, Option.bind_some, size_eq (l := s) (by omega) (by omega), Option.bind_some, has_eq (l := s) (by omega) a1 (by omega), Option.bind_some, if_pos]
  refine ⟨rfl, ?_, ?_⟩
  · show total s % 18446744073709551616 = c
    omega
  · show decide (Mem a1 s) = seen.getD a1.toNat false
    have := hq a1 ha.1 (by omega)
    by_cases e : Mem a1 s
    · rw [decide_eq_true e, this.mp e]
    · rw [decide_eq_false e]
      symm
      exact Bool.eq_false_iff.mpr (fun h => e (this.mpr h))
end Go.Proofs.Ytgaccappklhojaa.Pure
