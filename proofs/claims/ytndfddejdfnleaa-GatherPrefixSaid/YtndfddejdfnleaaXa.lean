/- Layer 7, what is gathered: a first part, from nothing. -/
import Derived.Test.YtndfddejdfnleaaPx10
import Derived.Test.YtndfddejdfnleaaPx11
import Derived.Test.YtndfddejdfnleaaPx2
import Derived.Test.YtndfddejdfnleaaPx3
import Derived.Test.YtndfddejdfnleaaPx4
import Derived.Test.YtndfddejdfnleaaPx6
import Derived.Test.YtndfddejdfnleaaPx7
import Derived.Test.YtndfddejdfnleaaPx8
import Derived.Test.YtndfddejdfnleaaPx9
namespace Go.Proofs.Ytndfddejdfnleaa.Pure
open Go.RowKit Go.Proofs.Ytndfddejdfnleaa.P Go.Proofs.YtndfddejdfnleaaW.PrintWords Go.Proofs.YtndfddejdfnleaaW.PrintLast Go.Proofs.YtndfddejdfnleaaW.PrintMore
set_option linter.unusedSectionVars false
set_option linter.unusedVariables false
set_option linter.unusedSimpArgs false
/-- A word: a number of 64 bits without a sign. -/
def Wd (x : Int) : Prop := 0 ≤ x ∧ x < 18446744073709551616
theorem wd_of {x : Int} (h : (Lit.int .u64 x).wf = true) : Wd x := by
  simp [Lit.wf, IntKind.min, IntKind.max, IntKind.signed, IntKind.bits] at h
  exact ⟨by omega, by omega⟩
def sadd (a b : Int) : Int := if a + b < 18446744073709551616 then a + b else 18446744073709551615
def ssub (a b : Int) : Int := if a < b then 0 else a - b
theorem wrapu (x : Int) : IntKind.u64.wrap x = x % 18446744073709551616 := IntKind.wrap_u64 x
theorem wrapu_id {x : Int} (h : Wd x) : IntKind.u64.wrap x = x := by rw [wrapu]; obtain ⟨_, _⟩ := h; omega
theorem sadd_wd {a b : Int} (ha : Wd a) (hb : Wd b) : Wd (sadd a b) := by
  obtain ⟨_, _⟩ := ha; obtain ⟨_, _⟩ := hb; unfold sadd Wd; split <;> omega
theorem ssub_wd {a b : Int} (ha : Wd a) (hb : Wd b) : Wd (ssub a b) := by
  obtain ⟨_, _⟩ := ha; obtain ⟨_, _⟩ := hb; unfold ssub Wd; split <;> omega
theorem tdiv_pos {x : Int} (h : 0 ≤ x) (k : Nat) : Int.tdiv x (k : Int) = x / (k : Int) := Int.tdiv_eq_ediv_of_nonneg h
theorem mx_eq (a b : Int) : mx a b = max a b := by unfold mx; omega
theorem mn_eq (a b : Int) : mn a b = min a b := by unfold mn; omega
abbrev Sp := S41
/-! Sets of spans, as lists: what is in them, and that a set has one list alone. -/
def Mem (n : Int) (l : List Sp) : Prop := ∃ s ∈ l, s.f0 ≤ n ∧ n < s.f1
def Ok (l : List Sp) : Prop := (∀ s ∈ l, s.f0 < s.f1) ∧ l.Pairwise (fun a b => a.f1 < b.f0)
theorem mem_nil {n : Int} : ¬ Mem n [] := by intro ⟨s, h, _⟩; cases h
theorem mem_cons {n : Int} {s : Sp} {l : List Sp} : Mem n (s :: l) ↔ (s.f0 ≤ n ∧ n < s.f1) ∨ Mem n l := by
  constructor
  · intro ⟨u, h, q⟩
    rcases List.mem_cons.mp h with e | e
    · rw [e] at q; exact .inl q
    · exact .inr ⟨u, e, q⟩
  · intro h
    rcases h with q | ⟨u, e, q⟩
    · exact ⟨s, List.mem_cons_self .., q⟩
    · exact ⟨u, List.mem_cons_of_mem _ e, q⟩
theorem mem_append {n : Int} {a b : List Sp} : Mem n (a ++ b) ↔ Mem n a ∨ Mem n b := by
  constructor
  · intro ⟨u, h, q⟩
    rcases List.mem_append.mp h with e | e
    · exact .inl ⟨u, e, q⟩
    · exact .inr ⟨u, e, q⟩
  · intro h
    rcases h with ⟨u, e, q⟩ | ⟨u, e, q⟩
    · exact ⟨u, List.mem_append_left _ e, q⟩
    · exact ⟨u, List.mem_append_right _ e, q⟩
theorem mem_one {n : Int} {s : Sp} : Mem n [s] ↔ s.f0 ≤ n ∧ n < s.f1 := by
  rw [mem_cons]
  constructor
  · intro h
    rcases h with h | h
    · exact h
    · exact absurd h mem_nil
  · exact .inl
theorem ok_nil : Ok [] := ⟨by simp, List.Pairwise.nil⟩
theorem ok_cons {s : Sp} {l : List Sp} : Ok (s :: l) ↔ s.f0 < s.f1 ∧ (∀ u ∈ l, s.f1 < u.f0) ∧ Ok l := by
  unfold Ok
  rw [List.pairwise_cons]
  constructor
  · intro ⟨h1, h2, h3⟩
    exact ⟨h1 s (List.mem_cons_self ..), h2, fun u hu => h1 u (List.mem_cons_of_mem _ hu), h3⟩
  · intro ⟨h1, h2, h3, h4⟩
    refine ⟨fun u hu => ?_, h2, h4⟩
    rcases List.mem_cons.mp hu with e | e
    · rw [e]; exact h1
    · exact h3 u e
theorem ok_append {a b : List Sp} : Ok (a ++ b) ↔ Ok a ∧ Ok b ∧ ∀ x ∈ a, ∀ y ∈ b, x.f1 < y.f0 := by
  unfold Ok
  rw [List.pairwise_append]
  constructor
  · intro ⟨h1, h2, h3, h4⟩
    exact ⟨⟨fun u hu => h1 u (List.mem_append_left _ hu), h2⟩, ⟨fun u hu => h1 u (List.mem_append_right _ hu), h3⟩, h4⟩
  · intro ⟨⟨h1, h2⟩, ⟨h3, h4⟩, h5⟩
    refine ⟨fun u hu => ?_, h2, h4, h5⟩
    rcases List.mem_append.mp hu with e | e
    · exact h1 u e
    · exact h3 u e
theorem ok_one {s : Sp} (h : s.f0 < s.f1) : Ok [s] := ok_cons.mpr ⟨h, by simp, ok_nil⟩
theorem ok_mem {l : List Sp} (h : Ok l) {s : Sp} (hs : s ∈ l) : Mem s.f0 l := ⟨s, hs, Int.le_refl _, h.1 s hs⟩
/-- A list of spans, and a set, are one. -/
theorem ok_ext : ∀ {a b : List Sp}, Ok a → Ok b → (∀ n, Mem n a ↔ Mem n b) → a = b := by
  intro a
  induction a with
  | nil =>
    intro b _ hb h
    cases b with
    | nil => rfl
    | cons s t => exact absurd ((h s.f0).mpr (ok_mem hb (List.mem_cons_self ..))) mem_nil
  | cons s t ih =>
    intro b ha hb h
    cases b with
    | nil => exact absurd ((h s.f0).mp (ok_mem ha (List.mem_cons_self ..))) mem_nil
    | cons u v =>
      obtain ⟨a1, a2, a3⟩ := ok_cons.mp ha
      obtain ⟨b1, b2, b3⟩ := ok_cons.mp hb
      have la : ∀ n, Mem n t → s.f1 < n := by intro n ⟨x, hx, q⟩; have := a2 x hx; omega
      have lb : ∀ n, Mem n v → u.f1 < n := by intro n ⟨x, hx, q⟩; have := b2 x hx; omega
      have e0 : s.f0 = u.f0 := by
        have q1 := mem_cons.mp ((h s.f0).mp (ok_mem ha (List.mem_cons_self ..)))
        have q2 := mem_cons.mp ((h u.f0).mpr (ok_mem hb (List.mem_cons_self ..)))
        rcases q1 with q1 | q1 <;> rcases q2 with q2 | q2
        · omega
        · have := la _ q2; omega
        · have := lb _ q1; omega
        · have := la _ q2; have := lb _ q1; omega
      have e1 : s.f1 = u.f1 := by
        by_cases c1 : s.f1 < u.f1
        · rcases mem_cons.mp ((h s.f1).mpr (mem_cons.mpr (.inl ⟨by omega, c1⟩))) with q | q
          · omega
          · have := la _ q; omega
        · by_cases c2 : u.f1 < s.f1
          · rcases mem_cons.mp ((h u.f1).mp (mem_cons.mpr (.inl ⟨by omega, c2⟩))) with q | q
            · omega
            · have := lb _ q; omega
          · omega
      have es : s = u := by cases s; cases u; simp only at e0 e1; rw [e0, e1]
      rw [es, ih a3 b3]
      intro n
      constructor
      · intro q
        rcases mem_cons.mp ((h n).mp (mem_cons.mpr (.inr q))) with r | r
        · have := la _ q; omega
        · exact r
      · intro q
        rcases mem_cons.mp ((h n).mpr (mem_cons.mpr (.inr q))) with r | r
        · have := lb _ q; omega
        · exact r
/-- What is put in. -/
def addL : List Sp → Int → Int → List Sp
  | [], a, b => [⟨a, b⟩]
  | x :: t, a, b => if x.f1 < a then x :: addL t a b else if b < x.f0 then ⟨a, b⟩ :: x :: t else addL t (if x.f0 < a then x.f0 else a) (if b < x.f1 then x.f1 else b)
theorem addL_ok {l : List Sp} : ∀ {a b : Int}, Ok l → a < b → Ok (addL l a b) ∧ ∀ n, Mem n (addL l a b) ↔ Mem n l ∨ (a ≤ n ∧ n < b) := by
  induction l with
  | nil =>
    intro a b _ h
    refine ⟨ok_one h, fun n => ?_⟩
    rw [addL, mem_one]
    constructor
    · exact .inr
    · intro q; rcases q with q | q; exact absurd q mem_nil; exact q
  | cons x t ih =>
    intro a b hl h
    obtain ⟨h1, h2, h3⟩ := ok_cons.mp hl
    have lt : ∀ n, Mem n t → x.f1 < n := by intro n ⟨y, hy, q⟩; have := h2 y hy; omega
    rw [addL]
    by_cases c1 : x.f1 < a
    · rw [if_pos c1]
      obtain ⟨o, m⟩ := ih h3 h
      refine ⟨ok_cons.mpr ⟨h1, fun u hu => ?_, o⟩, fun n => ?_⟩
      · rcases (m u.f0).mp (ok_mem o hu) with q | q
        · exact lt _ q
        · omega
      · rw [mem_cons, mem_cons, m n, or_assoc]
    · rw [if_neg c1]
      by_cases c2 : b < x.f0
      · rw [if_pos c2]
        refine ⟨ok_cons.mpr ⟨h, fun u hu => ?_, hl⟩, fun n => ?_⟩
        · rcases List.mem_cons.mp hu with e | e
          · rw [e]; exact c2
          · have := h2 u e
            show b < u.f0
            omega
        · rw [mem_cons (s := (⟨a, b⟩ : Sp)), or_comm]
      · rw [if_neg c2]
        have ea : (if x.f0 < a then x.f0 else a) ≤ a ∧ (if x.f0 < a then x.f0 else a) ≤ x.f0 ∧ ((if x.f0 < a then x.f0 else a) = a ∨ (if x.f0 < a then x.f0 else a) = x.f0) := by split <;> omega
        have eb : b ≤ (if b < x.f1 then x.f1 else b) ∧ x.f1 ≤ (if b < x.f1 then x.f1 else b) ∧ ((if b < x.f1 then x.f1 else b) = b ∨ (if b < x.f1 then x.f1 else b) = x.f1) := by split <;> omega
        generalize (if x.f0 < a then x.f0 else a) = a' at *
        generalize (if b < x.f1 then x.f1 else b) = b' at *
        obtain ⟨o, m⟩ := ih (a := a') (b := b') h3 (by omega)
        refine ⟨o, fun n => ?_⟩
        rw [m n, mem_cons]
        constructor
        · intro q
          rcases q with q | q
          · exact .inl (.inr q)
          · by_cases r : a ≤ n ∧ n < b
            · exact .inr r
            · exact .inl (.inl (by omega))
        · intro q
          rcases q with (q | q) | q
          · exact .inr (by omega)
          · exact .inl q
          · exact .inr (by omega)
/-- What is taken out. -/
def cut1 (x : Sp) (a b : Int) : List Sp := (if x.f0 < (if a < x.f1 then a else x.f1) then [⟨x.f0, if a < x.f1 then a else x.f1⟩] else []) ++ (if (if x.f0 < b then b else x.f0) < x.f1 then [⟨if x.f0 < b then b else x.f0, x.f1⟩] else [])
def cutL (l : List Sp) (a b : Int) : List Sp := l.flatMap (fun x => cut1 x a b)
theorem cut1_ok {x : Sp} {a b : Int} (h : a < b) : Ok (cut1 x a b) ∧ (∀ n, Mem n (cut1 x a b) ↔ (x.f0 ≤ n ∧ n < x.f1) ∧ ¬ (a ≤ n ∧ n < b)) ∧ ∀ u ∈ cut1 x a b, x.f0 ≤ u.f0 ∧ u.f0 < u.f1 ∧ u.f1 ≤ x.f1 := by
  unfold cut1
  by_cases c1 : a < x.f1 <;> by_cases c2 : x.f0 < b <;> simp only [c1, c2, if_true, if_false]
  · by_cases d1 : x.f0 < a <;> by_cases d2 : b < x.f1 <;> simp only [d1, d2, if_true, if_false, List.nil_append, List.append_nil]
    · refine ⟨ok_append.mpr ⟨ok_one d1, ok_one d2, by simpa using h⟩, fun n => ?_, by simp; omega⟩
      rw [mem_append, mem_one, mem_one]; simp only; omega
    · refine ⟨ok_one d1, fun n => ?_, by simp; omega⟩
      rw [mem_one]; simp only; omega
    · refine ⟨ok_one d2, fun n => ?_, by simp; omega⟩
      rw [mem_one]; simp only; omega
    · refine ⟨ok_nil, fun n => ?_, by simp⟩
      constructor
      · intro q; exact absurd q mem_nil
      · omega
  · by_cases d1 : x.f0 < a <;> by_cases d2 : x.f0 < x.f1 <;> simp only [d1, d2, if_true, if_false, List.nil_append, List.append_nil] <;> first | omega | skip
    · refine ⟨ok_one d2, fun n => ?_, by simp; omega⟩
      rw [mem_one]; simp only; omega
    · refine ⟨ok_nil, fun n => ?_, by simp⟩
      constructor
      · intro q; exact absurd q mem_nil
      · omega
  · by_cases d1 : x.f0 < x.f1 <;> by_cases d2 : b < x.f1 <;> simp only [d1, d2, if_true, if_false, List.nil_append, List.append_nil] <;> first | omega | skip
    · refine ⟨ok_one d1, fun n => ?_, by simp; omega⟩
      rw [mem_one]; simp only; omega
    · refine ⟨ok_nil, fun n => ?_, by simp⟩
      constructor
      · intro q; exact absurd q mem_nil
      · omega
  · have d1 : ¬ x.f0 < x.f1 := by omega
    simp only [d1, if_false, List.append_nil]
    refine ⟨ok_nil, fun n => ?_, by simp⟩
    constructor
    · intro q; exact absurd q mem_nil
    · omega
theorem cutL_ok {l : List Sp} {a b : Int} (hl : Ok l) (h : a < b) : Ok (cutL l a b) ∧ ∀ n, Mem n (cutL l a b) ↔ Mem n l ∧ ¬ (a ≤ n ∧ n < b) := by
  induction l with
  | nil => exact ⟨ok_nil, fun n => ⟨fun q => absurd q mem_nil, fun q => absurd q.1 mem_nil⟩⟩
  | cons x t ih =>
    obtain ⟨h1, h2, h3⟩ := ok_cons.mp hl
    obtain ⟨o, m⟩ := ih h3
    obtain ⟨o1, m1, r1⟩ := cut1_ok (x := x) h
    have e : cutL (x :: t) a b = cut1 x a b ++ cutL t a b := by simp [cutL]
    rw [e]
    refine ⟨ok_append.mpr ⟨o1, o, fun u hu y hy => ?_⟩, fun n => ?_⟩
    · have q := (m y.f0).mp (ok_mem o hy)
      obtain ⟨⟨z, hz, q⟩, _⟩ := q
      have := h2 z hz
      have := r1 u hu
      omega
    · rw [mem_append, m1 n, m n, mem_cons]
      constructor
      · intro q
        rcases q with ⟨q, r⟩ | ⟨q, r⟩
        · exact ⟨.inl q, r⟩
        · exact ⟨.inr q, r⟩
      · intro ⟨q, r⟩
        rcases q with q | q
        · exact .inl ⟨q, r⟩
        · exact .inr ⟨q, r⟩
/-- What is in two. -/
def bothL : List Sp → List Sp → Nat → List Sp
  | _, _, 0 => []
  | [], _, _ => []
  | _, [], _ => []
  | x :: s, y :: t, k + 1 => (if (if x.f0 < y.f0 then y.f0 else x.f0) < (if y.f1 < x.f1 then y.f1 else x.f1) then [(⟨if x.f0 < y.f0 then y.f0 else x.f0, if y.f1 < x.f1 then y.f1 else x.f1⟩ : Sp)] else []) ++ (if x.f1 < y.f1 then bothL s (y :: t) k else bothL (x :: s) t k)
theorem bothL_ok : ∀ (k : Nat) {a b : List Sp}, Ok a → Ok b → a.length + b.length ≤ k → Ok (bothL a b k) ∧ ∀ n, Mem n (bothL a b k) ↔ Mem n a ∧ Mem n b := by
  intro k
  induction k with
  | zero =>
    intro a b _ _ h
    have : a = [] := List.eq_nil_of_length_eq_zero (by omega)
    subst this
    exact ⟨by unfold bothL; exact ok_nil, fun n => ⟨fun q => by unfold bothL at q; exact absurd q mem_nil, fun q => absurd q.1 mem_nil⟩⟩
  | succ k ih =>
    intro a b ha hb h
    cases a with
    | nil => exact ⟨by unfold bothL; exact ok_nil, fun n => ⟨fun q => by unfold bothL at q; exact absurd q mem_nil, fun q => absurd q.1 mem_nil⟩⟩
    | cons x s =>
      cases b with
      | nil => exact ⟨by unfold bothL; exact ok_nil, fun n => ⟨fun q => by unfold bothL at q; exact absurd q mem_nil, fun q => absurd q.2 mem_nil⟩⟩
      | cons y t =>
        obtain ⟨a1, a2, a3⟩ := ok_cons.mp ha
        obtain ⟨b1, b2, b3⟩ := ok_cons.mp hb
        have la : ∀ n, Mem n s → x.f1 < n := by intro n ⟨z, hz, q⟩; have := a2 z hz; omega
        have lb : ∀ n, Mem n t → y.f1 < n := by intro n ⟨z, hz, q⟩; have := b2 z hz; omega
        simp only [List.length_cons] at h
        rw [bothL]
        have e0 : x.f0 ≤ (if x.f0 < y.f0 then y.f0 else x.f0) ∧ y.f0 ≤ (if x.f0 < y.f0 then y.f0 else x.f0) ∧ ((if x.f0 < y.f0 then y.f0 else x.f0) = x.f0 ∨ (if x.f0 < y.f0 then y.f0 else x.f0) = y.f0) := by split <;> omega
        have e1 : (if y.f1 < x.f1 then y.f1 else x.f1) ≤ x.f1 ∧ (if y.f1 < x.f1 then y.f1 else x.f1) ≤ y.f1 ∧ ((if y.f1 < x.f1 then y.f1 else x.f1) = x.f1 ∨ (if y.f1 < x.f1 then y.f1 else x.f1) = y.f1) := by split <;> omega
        generalize (if x.f0 < y.f0 then y.f0 else x.f0) = p at *
        generalize (if y.f1 < x.f1 then y.f1 else x.f1) = q at *
        have first : ∀ (r : List Sp), Ok r → (∀ n, Mem n r → q < n) → (∀ n, Mem n r ↔ (Mem n (x :: s) ∧ Mem n (y :: t)) ∧ q < n) → Ok ((if p < q then [(⟨p, q⟩ : Sp)] else []) ++ r) ∧ ∀ n, Mem n ((if p < q then [(⟨p, q⟩ : Sp)] else []) ++ r) ↔ Mem n (x :: s) ∧ Mem n (y :: t) := by
          intro r ro rq rm
          have key : ∀ n, n ≤ q → ((Mem n (x :: s) ∧ Mem n (y :: t)) ↔ p ≤ n ∧ n < q) := by
            intro n hn
            rw [mem_cons, mem_cons]
            constructor
            · intro ⟨u, v⟩
              rcases u with u | u <;> rcases v with v | v
              · omega
              · have := lb _ v; omega
              · have := la _ u; omega
              · have := la _ u; omega
            · intro u
              exact ⟨.inl (by omega), .inl (by omega)⟩
          by_cases c : p < q
          · rw [if_pos c]
            refine ⟨ok_append.mpr ⟨ok_one c, ro, fun u hu z hz => ?_⟩, fun n => ?_⟩
            · rw [List.mem_singleton.mp hu]
              exact rq _ (ok_mem ro hz)
            · rw [mem_append, mem_one, rm n]
              simp only
              constructor
              · intro w
                rcases w with w | w
                · exact (key n (by omega)).mpr w
                · exact w.1
              · intro w
                by_cases d : q < n
                · exact .inr ⟨w, d⟩
                · exact .inl ((key n (by omega)).mp w)
          · rw [if_neg c, List.nil_append]
            refine ⟨ro, fun n => ?_⟩
            rw [rm n]
            constructor
            · exact fun w => w.1
            · intro w
              by_cases d : q < n
              · exact ⟨w, d⟩
              · have := (key n (by omega)).mp w
                omega
        by_cases c : x.f1 < y.f1
        · rw [if_pos c]
          obtain ⟨o, m⟩ := ih (a := s) (b := y :: t) a3 hb (by simp only [List.length_cons]; omega)
          refine first _ o (fun n w => ?_) (fun n => ?_)
          · have := la n ((m n).mp w).1; omega
          · rw [m n, mem_cons (s := x)]
            constructor
            · intro ⟨u, v⟩
              have := la n u
              exact ⟨⟨.inr u, v⟩, by omega⟩
            · intro ⟨⟨u, v⟩, w⟩
              rcases u with u | u
              · rcases mem_cons.mp v with v' | v'
                · omega
                · have := lb _ v'; omega
              · exact ⟨u, v⟩
        · rw [if_neg c]
          obtain ⟨o, m⟩ := ih (a := x :: s) (b := t) ha b3 (by simp only [List.length_cons]; omega)
          refine first _ o (fun n w => ?_) (fun n => ?_)
          · have := lb n ((m n).mp w).2; omega
          · rw [m n, mem_cons (s := y)]
            constructor
            · intro ⟨u, v⟩
              have := lb n v
              exact ⟨⟨u, .inr v⟩, by omega⟩
            · intro ⟨⟨u, v⟩, w⟩
              rcases v with v | v
              · rcases mem_cons.mp u with u' | u'
                · omega
                · have := la _ u'; omega
              · exact ⟨u, v⟩
/-- The document's own: a span behind all, joined to the last one. -/
def joinL (l : List Sp) (s : Sp) : List Sp := if s.f1 ≤ s.f0 then l else match l.getLast? with
  | none => l ++ [s]
  | some z => if z.f1 < s.f0 then l ++ [s] else if z.f1 < s.f1 then l.dropLast ++ [⟨z.f0, s.f1⟩] else l
theorem joinL_snoc (l : List Sp) (z s : Sp) : joinL (l ++ [z]) s = if s.f1 ≤ s.f0 then l ++ [z] else if z.f1 < s.f0 then l ++ [z] ++ [s] else if z.f1 < s.f1 then l ++ [⟨z.f0, s.f1⟩] else l ++ [z] := by
  unfold joinL
  simp
theorem join_ok {l : List Sp} {s : Sp} (h : Ok l) (hs : s.f0 < s.f1 → ∀ u ∈ l, u.f0 ≤ s.f0) : Ok (joinL l s) ∧ (∀ n, Mem n (joinL l s) ↔ Mem n l ∨ (s.f0 ≤ n ∧ n < s.f1)) ∧ ∀ u ∈ joinL l s, u ∈ l ∨ (s.f0 < s.f1 ∧ u.f0 ≤ s.f0) := by
  rcases List.eq_nil_or_concat l with rfl | ⟨t, z, rfl⟩
  · by_cases c : s.f1 ≤ s.f0
    · have e : joinL [] s = [] := by unfold joinL; rw [if_pos c]
      rw [e]
      refine ⟨ok_nil, fun n => ?_, fun u hu => .inl hu⟩
      constructor
      · intro q; exact .inl q
      · intro q; rcases q with q | q; exact q; omega
    · have e : joinL [] s = [s] := by unfold joinL; rw [if_neg c]; rfl
      rw [e]
      refine ⟨ok_one (by omega), fun n => ?_, fun u hu => .inr ⟨by omega, by rw [List.mem_singleton.mp hu]; exact Int.le_refl _⟩⟩
      rw [mem_one]
      constructor
      · exact .inr
      · intro q; rcases q with q | q; exact absurd q mem_nil; exact q
  · simp only [List.concat_eq_append] at h hs ⊢
    rw [joinL_snoc]
    by_cases c : s.f1 ≤ s.f0
    · rw [if_pos c]
      refine ⟨h, fun n => ?_, fun u hu => .inl hu⟩
      constructor
      · intro q; exact .inl q
      · intro q; rcases q with q | q; exact q; omega
    · rw [if_neg c]
      have hs := hs (by omega)
      have hz := hs z (List.mem_append_right _ (List.mem_singleton.mpr rfl))
      obtain ⟨h1, h2, h3⟩ := ok_append.mp h
      have hz1 := h2.1 z (List.mem_singleton.mpr rfl)
      by_cases c1 : z.f1 < s.f0
      · rw [if_pos c1]
        refine ⟨ok_append.mpr ⟨h, ok_one (by omega), fun x hx y hy => ?_⟩, fun n => ?_, fun u hu => ?_⟩
        · rw [List.mem_singleton.mp hy]
          rcases List.mem_append.mp hx with q | q
          · have := h3 x q z (List.mem_singleton.mpr rfl); omega
          · rw [List.mem_singleton.mp q]; exact c1
        · rw [mem_append, mem_one]
        · rcases List.mem_append.mp hu with q | q
          · exact .inl q
          · rw [List.mem_singleton.mp q]; exact .inr ⟨by omega, Int.le_refl _⟩
      · rw [if_neg c1]
        by_cases c2 : z.f1 < s.f1
        · rw [if_pos c2]
          refine ⟨ok_append.mpr ⟨h1, ok_one (show z.f0 < s.f1 by omega), fun x hx y hy => ?_⟩, fun n => ?_, fun u hu => ?_⟩
          · rw [List.mem_singleton.mp hy]
            exact h3 x hx z (List.mem_singleton.mpr rfl)
          · rw [mem_append, mem_one, mem_append, mem_one, or_assoc]
            simp only
            constructor
            · intro q
              rcases q with q | q
              · exact .inl q
              · by_cases d : n < z.f1
                · exact .inr (.inl (by omega))
                · exact .inr (.inr (by omega))
            · intro q
              rcases q with q | q | q
              · exact .inl q
              · exact .inr (by omega)
              · exact .inr (by omega)
          · rcases List.mem_append.mp hu with q | q
            · exact .inl (List.mem_append_left _ q)
            · rw [List.mem_singleton.mp q]; exact .inr ⟨by omega, hz⟩
        · rw [if_neg c2]
          refine ⟨h, fun n => ?_, fun u hu => .inl hu⟩
          constructor
          · intro q; exact .inl q
          · intro q
            rcases q with q | q
            · exact q
            · exact mem_append.mpr (.inr (mem_one.mpr (by omega)))
def Le0 (x y : Sp) : Prop := x.f0 < x.f1 → y.f0 < y.f1 → x.f0 ≤ y.f0
theorem joins_ok : ∀ (ps : List Sp) {l : List Sp}, Ok l → ps.Pairwise Le0 → (∀ u ∈ l, ∀ p ∈ ps, p.f0 < p.f1 → u.f0 ≤ p.f0) → Ok (ps.foldl joinL l) ∧ ∀ n, Mem n (ps.foldl joinL l) ↔ Mem n l ∨ Mem n ps := by
  intro ps
  induction ps with
  | nil => intro l h _ _; exact ⟨h, fun n => ⟨.inl, fun q => by rcases q with q | q; exact q; exact absurd q mem_nil⟩⟩
  | cons p ps ih =>
    intro l h hp hl
    obtain ⟨p1, p2⟩ := List.pairwise_cons.mp hp
    obtain ⟨o, m, b⟩ := join_ok h (fun c u hu => hl u hu p (List.mem_cons_self ..) c)
    obtain ⟨o2, m2⟩ := ih o p2 (fun u hu q hq c => by
      rcases b u hu with r | ⟨r1, r2⟩
      · exact hl u r q (List.mem_cons_of_mem _ hq) c
      · have := p1 q hq r1 c; omega)
    refine ⟨o2, fun n => ?_⟩
    show Mem n (ps.foldl joinL (joinL l p)) ↔ _
    rw [m2 n, m n, mem_cons, or_assoc]
theorem joins_nil {ps : List Sp} (h : ps.Pairwise Le0) : Ok (ps.foldl joinL []) ∧ ∀ n, Mem n (ps.foldl joinL []) ↔ Mem n ps := by
  obtain ⟨o, m⟩ := joins_ok ps ok_nil h (by simp)
  refine ⟨o, fun n => ?_⟩
  rw [m n]
  constructor
  · intro q; rcases q with q | q; exact absurd q mem_nil; exact q
  · exact .inr
/-- Whatever order joins in gives the set's one list. -/
theorem joins_eq {ps l : List Sp} (h : ps.Pairwise Le0) (hl : Ok l) (hm : ∀ n, Mem n l ↔ Mem n ps) : ps.foldl joinL [] = l := by
  obtain ⟨o, m⟩ := joins_nil h
  exact ok_ext o hl (fun n => (m n).trans (hm n).symm)
theorem ok_le0 {l : List Sp} (h : Ok l) : l.Pairwise Le0 := by
  refine List.Pairwise.imp_of_mem ?_ h.2
  intro a b ha hb r _ _
  have := h.1 a ha
  omega
/-- A span put into its place. -/
def insL : List Sp → Sp → List Sp
  | [], s => [s]
  | x :: t, s => if s.f0 ≤ x.f0 then s :: x :: t else x :: insL t s
theorem mem_ins {l : List Sp} {s : Sp} {n : Int} : Mem n (insL l s) ↔ Mem n l ∨ (s.f0 ≤ n ∧ n < s.f1) := by
  induction l with
  | nil =>
    rw [insL, mem_one]
    constructor
    · exact .inr
    · intro q
      rcases q with q | q
      · exact absurd q mem_nil
      · exact q
  | cons x t ih =>
    rw [insL]
    split
    · rw [mem_cons, or_comm]
    · rw [mem_cons, mem_cons, ih, or_assoc]
theorem in_ins {l : List Sp} {s u : Sp} (h : u ∈ insL l s) : u = s ∨ u ∈ l := by
  induction l with
  | nil => exact .inl (List.mem_singleton.mp h)
  | cons x t ih =>
    rw [insL] at h
    split at h
    · rcases List.mem_cons.mp h with q | q
      · exact .inl q
      · exact .inr q
    · rcases List.mem_cons.mp h with q | q
      · exact .inr (by rw [q]; exact List.mem_cons_self ..)
      · rcases ih q with r | r
        · exact .inl r
        · exact .inr (List.mem_cons_of_mem _ r)
theorem ins_le0 {l : List Sp} {s : Sp} (h : Ok l) : (insL l s).Pairwise Le0 := by
  induction l with
  | nil => rw [insL]; simp
  | cons x t ih =>
    obtain ⟨h1, h2, h3⟩ := ok_cons.mp h
    rw [insL]
    split
    · rename_i c
      refine List.pairwise_cons.mpr ⟨fun u hu _ _ => ?_, ok_le0 h⟩
      rcases List.mem_cons.mp hu with q | q
      · rw [q]; exact c
      · have := h2 u q; omega
    · rename_i c
      refine List.pairwise_cons.mpr ⟨fun u hu _ _ => ?_, ih h3⟩
      rcases in_ins hu with q | q
      · rw [q]; omega
      · have := h2 u q; omega
/-- What two spans both have. -/
def meetL (a b : Sp) : Sp := ⟨if a.f0 < b.f0 then b.f0 else a.f0, if b.f1 < a.f1 then b.f1 else a.f1⟩
theorem meet_bd (a b : Sp) : a.f0 ≤ (meetL a b).f0 ∧ b.f0 ≤ (meetL a b).f0 ∧ (meetL a b).f1 ≤ a.f1 ∧ (meetL a b).f1 ≤ b.f1 := by
  unfold meetL
  refine ⟨?_, ?_, ?_, ?_⟩ <;> simp only <;> split <;> omega
theorem in_meet {a b : Sp} {n : Int} : ((meetL a b).f0 ≤ n ∧ n < (meetL a b).f1) ↔ (a.f0 ≤ n ∧ n < a.f1) ∧ (b.f0 ≤ n ∧ n < b.f1) := by
  unfold meetL
  simp only
  constructor
  · intro ⟨h1, h2⟩
    split at h1 <;> split at h2 <;> omega
  · intro ⟨⟨h1, h2⟩, h3, h4⟩
    split <;> split <;> omega
theorem mem_flatMap {α : Type} {f : α → List Sp} {l : List α} {n : Int} : Mem n (l.flatMap f) ↔ ∃ x ∈ l, Mem n (f x) := by
  constructor
  · intro ⟨s, h, q⟩
    obtain ⟨x, hx, hs⟩ := List.mem_flatMap.mp h
    exact ⟨x, hx, s, hs, q⟩
  · intro ⟨x, hx, s, hs, q⟩
    exact ⟨s, List.mem_flatMap.mpr ⟨x, hx, hs⟩, q⟩
theorem rcut_eq {l : List Sp} {a b N : Int} (hl : Ok l) (h : a < b) (h0 : ∀ s ∈ l, 0 ≤ s.f0) (hN : ∀ s ∈ l, s.f1 ≤ N) : (l.flatMap (fun x => [meetL x ⟨0, a⟩, meetL x ⟨b, N⟩])).foldl joinL [] = cutL l a b := by
  obtain ⟨o, m⟩ := cutL_ok hl h
  refine joins_eq ?_ o (fun n => ?_)
  · refine List.pairwise_flatMap.mpr ⟨fun x hx => ?_, ?_⟩
    · refine List.pairwise_cons.mpr ⟨fun u hu => ?_, by simp⟩
      rw [List.mem_singleton.mp hu]
      intro c1 c2
      have h1 := meet_bd x ⟨0, a⟩
      have h2 := meet_bd x ⟨b, N⟩
      simp only at h1 h2
      omega
    · refine List.Pairwise.imp_of_mem ?_ hl.2
      intro x y hx hy r u hu v hv c1 c2
      have hu' : u.f1 ≤ x.f1 := by
        rcases List.mem_cons.mp hu with q | q
        · rw [q]; exact (meet_bd x _).2.2.1
        · rw [List.mem_singleton.mp q]; exact (meet_bd x _).2.2.1
      have hv' : y.f0 ≤ v.f0 := by
        rcases List.mem_cons.mp hv with q | q
        · rw [q]; exact (meet_bd y _).1
        · rw [List.mem_singleton.mp q]; exact (meet_bd y _).1
      omega
  · rw [m n, mem_flatMap]
    constructor
    · intro ⟨⟨s, hs, q⟩, r⟩
      have := h0 s hs
      have := hN s hs
      refine ⟨s, hs, mem_cons.mpr ?_⟩
      by_cases c : n < a
      · exact .inl (in_meet.mpr ⟨q, by simp only; omega⟩)
      · exact .inr (mem_one.mpr (in_meet.mpr ⟨q, by simp only; omega⟩))
    · intro ⟨x, hx, q⟩
      rcases mem_cons.mp q with q | q
      · have := in_meet.mp q
        simp only at this
        exact ⟨⟨x, hx, this.1⟩, by omega⟩
      · have := in_meet.mp (mem_one.mp q)
        simp only at this
        exact ⟨⟨x, hx, this.1⟩, by omega⟩
theorem radd_eq {l : List Sp} {a b : Int} (hl : Ok l) (h : a < b) : (insL l ⟨a, b⟩).foldl joinL [] = addL l a b := by
  obtain ⟨o, m⟩ := addL_ok hl h
  exact joins_eq (ins_le0 hl) o (fun n => by rw [m n, mem_ins])
theorem join_empty {l : List Sp} {s : Sp} (h : s.f1 ≤ s.f0) : joinL l s = l := by unfold joinL; rw [if_pos h]
theorem joins_self {l : List Sp} (h : Ok l) : l.foldl joinL [] = l := joins_eq (ok_le0 h) h (fun _ => Iff.rfl)
theorem radd_none {l : List Sp} {s : Sp} (hl : Ok l) (h : s.f1 ≤ s.f0) : (insL l s).foldl joinL [] = l := by
  refine joins_eq (ins_le0 hl) hl (fun n => ?_)
  rw [mem_ins]
  constructor
  · exact .inl
  · intro q; rcases q with q | q; exact q; omega
theorem rboth_eq {a b : List Sp} (ha : Ok a) (hb : Ok b) {k : Nat} (hk : a.length + b.length ≤ k) : (a.flatMap (fun x => b.map (meetL x))).foldl joinL [] = bothL a b k := by
  obtain ⟨o, m⟩ := bothL_ok k ha hb hk
  refine joins_eq ?_ o (fun n => ?_)
  · refine List.pairwise_flatMap.mpr ⟨fun x hx => ?_, ?_⟩
    · rw [List.pairwise_map]
      refine List.Pairwise.imp_of_mem ?_ hb.2
      intro u v hu hv r c1 c2
      have := meet_bd x u
      have := meet_bd x v
      omega
    · refine List.Pairwise.imp_of_mem ?_ ha.2
      intro x y hx hy r u hu v hv c1 c2
      obtain ⟨p, hp, rfl⟩ := List.mem_map.mp hu
      obtain ⟨q, hq, rfl⟩ := List.mem_map.mp hv
      have := meet_bd x p
      have := meet_bd y q
      omega
  · rw [m n, mem_flatMap]
    constructor
    · intro ⟨⟨s, hs, q⟩, ⟨t, ht, r⟩⟩
      exact ⟨s, hs, meetL s t, List.mem_map.mpr ⟨t, ht, rfl⟩, in_meet.mpr ⟨q, r⟩⟩
    · intro ⟨x, hx, u, hu, q⟩
      obtain ⟨t, ht, rfl⟩ := List.mem_map.mp hu
      have := in_meet.mp q
      exact ⟨⟨x, hx, this.1⟩, ⟨t, ht, this.2⟩⟩
theorem sp_rd {l : List Sp} {j : Nat} (h : j < l.length) : rd_T41 l (j : Int) = l[j] := by
  unfold rd_T41
  rw [Int.toNat_natCast, List.getD_eq_getElem?_getD, List.getElem?_eq_getElem h]
  rfl
theorem sp_up {j n : Nat} (h : j < n) (hn : n < 1000000) : wrap64 ((j : Int) + 1) = ((j + 1 : Nat) : Int) := by unfold wrap64; omega
theorem sp_dn {j n : Nat} (h : j < n) (hn : n < 1000000) : wrap64 (((j + 1 : Nat) : Int) - 1) = (j : Int) := by unfold wrap64; omega
theorem clone_eq {l : List Sp} (h : l.length < 1000000) : api_Span.f l = some l := by
  unfold api_Span.f
  rw [Option.bind_some, if_pos (by simp; omega), List.nil_append]
theorem add_loop {l : List Sp} (hn : l.length < 1000000) (d : Nat) : ∀ (j k : Nat) (out : List Sp) (a b : Int), j + d = l.length → d + 1 ≤ k → out.length ≤ j → span_Add.l0 k l out (j : Int) a b = some (out ++ addL (l.drop j) a b) := by
  induction d with
  | zero =>
    intro j k out a b hj hk ho
    obtain ⟨k, rfl⟩ : ∃ m, k = m + 1 := ⟨k - 1, by omega⟩
    have e : l.drop j = [] := List.drop_eq_nil_of_le (by omega)
    rw [span_Add.l0, if_neg (by omega), if_pos (by omega), Option.bind_some, if_pos (by omega), if_pos (by omega), Option.bind_some, Int.toNat_natCast, e, if_pos (by simp; omega)]
    rw [addL, List.append_nil]
  | succ d ih =>
    intro j k out a b hj hk ho
    obtain ⟨k, rfl⟩ : ∃ m, k = m + 1 := ⟨k - 1, by omega⟩
    have hjl : j < l.length := by omega
    have e := List.drop_eq_getElem_cons hjl
    rw [span_Add.l0, if_pos (by omega), if_pos (by omega), sp_rd hjl, sp_up hjl hn]
    by_cases c1 : (l[j]).f1 < a
    · rw [if_pos c1, if_pos (by omega), ih (j + 1) k _ a b (by omega) (by omega) (by simp; omega), e, addL, if_pos c1, List.append_assoc]
      rfl
    · rw [if_neg c1]
      by_cases c2 : b < (l[j]).f0
      · rw [if_pos c2, if_pos (by omega), Option.bind_some, if_pos (by omega), Option.bind_some, Int.toNat_natCast, if_pos (by simp; omega), e, addL, if_neg c1, if_pos c2, List.append_assoc]
        rfl
      · rw [if_neg c2, ih (j + 1) k out _ _ (by omega) (by omega) (by omega), e, addL, if_neg c1, if_neg c2]
        rfl
def addS (l : List Sp) (a b : Int) : List Sp := if b ≤ a then l else addL l a b
def cutS (l : List Sp) (a b : Int) : List Sp := if b ≤ a then l else cutL l a b
theorem add_eq {l : List Sp} (hn : l.length < 1000000) {a b : Int} {k : Nat} (hk : l.length + 1 ≤ k) : span_Add.f k l a b = some (addS l a b) := by
  unfold span_Add.f addS
  by_cases c : b ≤ a
  · rw [if_pos c, if_pos c, clone_eq hn]; rfl
  · rw [if_neg c, if_neg c]
    exact add_loop hn l.length 0 k [] a b (by omega) (by omega) (by simp)
theorem cut_fold (a b : Int) : ∀ (l o : List Sp), l.foldl (fun out x => span_Cut_1.add (span_Cut_1.add out x.f0 (mn x.f1 a)) (mx x.f0 b) x.f1) o = o ++ cutL l a b
  | [], o => by simp [cutL]
  | x :: l, o => by
    rw [List.foldl_cons, cut_fold a b l]
    have e : cutL (x :: l) a b = cut1 x a b ++ cutL l a b := by simp [cutL]
    rw [e, ← List.append_assoc]
    congr 1
    unfold span_Cut_1.add cut1 mn mx
    rw [List.append_assoc]
theorem cut_eq {l : List Sp} (hn : l.length < 1000000) {a b : Int} : span_Cut.f l a b = some (cutS l a b) := by
  unfold span_Cut.f cutS
  by_cases c : b ≤ a
  · rw [if_pos c, if_pos c, clone_eq hn]
  · rw [if_neg c, if_neg c, if_pos (by omega)]
    unfold span_Cut.fold
    rw [cut_fold, List.nil_append]
theorem addS_ok {l : List Sp} {a b : Int} (h : Ok l) : Ok (addS l a b) ∧ ∀ n, Mem n (addS l a b) ↔ Mem n l ∨ (a ≤ n ∧ n < b) := by
  unfold addS
  by_cases c : b ≤ a
  · rw [if_pos c]
    refine ⟨h, fun n => ⟨.inl, fun q => ?_⟩⟩
    rcases q with q | q
    · exact q
    · omega
  · rw [if_neg c]; exact addL_ok h (by omega)
theorem cutS_ok {l : List Sp} {a b : Int} (h : Ok l) : Ok (cutS l a b) ∧ ∀ n, Mem n (cutS l a b) ↔ Mem n l ∧ ¬ (a ≤ n ∧ n < b) := by
  unfold cutS
  by_cases c : b ≤ a
  · rw [if_pos c]
    exact ⟨h, fun n => ⟨fun q => ⟨q, by omega⟩, fun q => q.1⟩⟩
  · rw [if_neg c]; exact cutL_ok h (by omega)
theorem addL_len : ∀ (l : List Sp) (a b : Int), (addL l a b).length ≤ l.length + 1
  | [], a, b => by simp [addL]
  | x :: t, a, b => by
    rw [addL]
    have h1 := addL_len t a b
    have h2 := addL_len t (if x.f0 < a then x.f0 else a) (if b < x.f1 then x.f1 else b)
    split
    · simp only [List.length_cons]; omega
    · split
      · simp
      · simp only [List.length_cons]; omega
theorem addS_len (l : List Sp) (a b : Int) : (addS l a b).length ≤ l.length + 1 := by
  unfold addS
  split
  · omega
  · exact addL_len l a b
theorem cut1_len (x : Sp) (a b : Int) : (cut1 x a b).length ≤ 2 := by
  have h : ∀ (c : Prop) [Decidable c] (y : Sp), (if c then [y] else []).length ≤ 1 := by intro c _ y; split <;> simp
  unfold cut1
  rw [List.length_append]
  have h1 := h (x.f0 < (if a < x.f1 then a else x.f1)) ⟨x.f0, if a < x.f1 then a else x.f1⟩
  have h2 := h ((if x.f0 < b then b else x.f0) < x.f1) ⟨if x.f0 < b then b else x.f0, x.f1⟩
  omega
theorem cutL_len : ∀ (l : List Sp) (a b : Int), (cutL l a b).length ≤ 2 * l.length
  | [], a, b => by simp [cutL]
  | x :: t, a, b => by
    have e : cutL (x :: t) a b = cut1 x a b ++ cutL t a b := by simp [cutL]
    have h1 := cut1_len x a b
    have h2 := cutL_len t a b
    rw [e, List.length_append, List.length_cons]
    omega
theorem cutS_len (l : List Sp) (a b : Int) : (cutS l a b).length ≤ 2 * l.length := by
  unfold cutS
  split
  · omega
  · exact cutL_len l a b
theorem splice_length (d : List Int) (i : Nat) (l : List Int) (h : i + l.length ≤ d.length) : (splice d i l).length = d.length := by
  unfold splice
  simp
  omega
theorem seg_len (l : List Int) (i n : Nat) : (gather_Put_1.seg l i n).length ≤ n := by
  unfold gather_Put_1.seg
  simp
  omega
theorem put0 {l : List Int} {a : Int} {k : Nat} (hk : 2 ≤ k) (ha : 0 ≤ a) (he : a + (l.length : Int) ≤ 1048576) : ∃ K D, gather_Put.f k 0 [] [] false 0 a l false = some (0, K, D, false, 0, 0) ∧ ((l.length = 0 ∧ K = [] ∧ D = []) ∨ (0 < l.length ∧ K = [⟨a, a + (l.length : Int)⟩] ∧ D = splice (List.replicate (a + (l.length : Int)).toNat 0) a.toNat (gather_Put_1.seg l 0 l.length))) := by
  unfold gather_Put.f
  rw [if_pos ⟨by decide, by decide, ha, he, by decide, by decide⟩, if_neg (by simp), if_neg (by decide)]
  unfold gather_Put.body
  have hm : mx a 0 = a := by unfold mx; split <;> omega
  rw [hm]
  by_cases c : l.length = 0
  · rw [if_pos (by omega)]
    exact ⟨[], [], rfl, .inl ⟨c, rfl, rfl⟩⟩
  · rw [if_neg (by omega)]
    have hg : gather_Put.grow [] (a + (l.length : Int) - 0) = List.replicate (a + (l.length : Int)).toNat 0 := by
      unfold gather_Put.grow
      rw [if_pos (by simp; omega)]
      simp
    have hA : span_Add.f k [] a (a + (l.length : Int)) = some [⟨a, a + (l.length : Int)⟩] := by
      rw [add_eq (by decide) (by simp; omega)]
      unfold addS
      rw [if_neg (by omega)]
      rfl
    have hL : gather_Put.lays 0 a l (List.replicate (a + (l.length : Int)).toNat 0) [⟨a, a + (l.length : Int)⟩] = some (splice (List.replicate (a + (l.length : Int)).toNat 0) a.toNat (gather_Put_1.seg l 0 l.length)) := by
      unfold gather_Put.lays gather_Put.lay
      rw [if_pos (by simp only [List.length_replicate]; omega)]
      unfold gather_Put.lays
      simp only [Option.bind_some]
      have e1 : (a + (l.length : Int) - 0).toNat - (a - 0).toNat = l.length := by omega
      have e2 : (a - 0).toNat = a.toNat := by omega
      have e3 : (a - a).toNat = 0 := by omega
      rw [e1, e2, e3]
    unfold gather_Put.cuts
    rw [Option.bind_some, if_pos (by simp), hg, hL, Option.bind_some, hA, Option.bind_some]
    exact ⟨_, _, rfl, .inr ⟨by omega, rfl, rfl⟩⟩
theorem high_one (n : Int) (s : S41) (d : List Int) (b : Bool) (z : Int) : gather_High.f n [s] d b z = some s.f1 := by
  unfold gather_High.f
  have w : wrap64 (([s].length : Int) - 1) = 0 := by show wrap64 (((1 : Nat) : Int) - 1) = 0; unfold wrap64; omega
  rw [w, if_pos (by show ((1 : Nat) : Int) > 0; omega), if_pos (by omega), if_pos (by show (0 : Int) < ((1 : Nat) : Int); omega)]
  exact congrArg some (congrArg S41.f1 (sp_rd (l := [s]) (j := 0) (by simp)))
theorem high_nil (n : Int) (d : List Int) (b : Bool) (z : Int) : gather_High.f n [] d b z = some n := rfl
theorem u16_bd {x : Int} (h : (Lit.int .u16 x).wf = true) : 0 ≤ x ∧ x ≤ 65535 := by
  simp [Lit.wf, IntKind.min, IntKind.max, IntKind.signed, IntKind.bits] at h
  omega
end Go.Proofs.Ytndfddejdfnleaa.Pure
