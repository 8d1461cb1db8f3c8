/- Layer 7: each function's list, and the document's: sets of numbers have one list alone. -/
import Derived.Test.YtgaccappklhojaaPx10
import Derived.Test.YtgaccappklhojaaPx14
import Derived.Test.YtgaccappklhojaaPx18
import Derived.Test.YtgaccappklhojaaPx19
import Derived.Test.YtgaccappklhojaaPx2
import Derived.Test.YtgaccappklhojaaPx20
import Derived.Test.YtgaccappklhojaaPx21
import Derived.Test.YtgaccappklhojaaPx22
import Derived.Test.YtgaccappklhojaaPx23
import Derived.Test.YtgaccappklhojaaPx24
import Derived.Test.YtgaccappklhojaaPx25
import Derived.Test.YtgaccappklhojaaPx26
import Derived.Test.YtgaccappklhojaaPx4
import Derived.Test.YtgaccappklhojaaPx5
import Derived.Test.YtgaccappklhojaaPx6
import Derived.Test.YtgaccappklhojaaPx7
import Derived.Test.YtgaccappklhojaaPx8
import Derived.Test.YtgaccappklhojaaPx9
namespace Go.Proofs.Ytgaccappklhojaa.Pure
open Go.RowKit Go.Proofs.Ytgaccappklhojaa.P Go.Proofs.YtgaccappklhojaaW.PrintWords Go.Proofs.YtgaccappklhojaaW.PrintLast Go.Proofs.YtgaccappklhojaaW.PrintMore
set_option linter.unusedSectionVars false
set_option linter.unusedVariables false
set_option linter.unusedSimpArgs false
/-- A word: a number of 64 bits without a sign. -/
def Wd (x : Int) : Prop := 0 ≤ x ∧ x < 18446744073709551616
theorem wd_of {x : Int} (h : (Lit.int .u64 x).wf = true) : Wd x := by
  simp [Lit.wf, IntKind.min, IntKind.max, IntKind.signed, IntKind.bits] at h
  exact ⟨by omega, by omega⟩
def sadd (a b : Int) : Int := if a + b < 18446744073709551616 then a + b else 18446744073709551615
def ssub (a b : Int) : Int := if a < b then 0 else a - b
theorem wrapu (x : Int) : IntKind.u64.wrap x = x % 18446744073709551616 := IntKind.wrap_u64 x
theorem wrapu_id {x : Int} (h : Wd x) : IntKind.u64.wrap x = x := by rw [wrapu]; obtain ⟨_, _⟩ := h; omega
theorem sadd_wd {a b : Int} (ha : Wd a) (hb : Wd b) : Wd (sadd a b) := by
  obtain ⟨_, _⟩ := ha; obtain ⟨_, _⟩ := hb; unfold sadd Wd; split <;> omega
theorem ssub_wd {a b : Int} (ha : Wd a) (hb : Wd b) : Wd (ssub a b) := by
  obtain ⟨_, _⟩ := ha; obtain ⟨_, _⟩ := hb; unfold ssub Wd; split <;> omega
theorem tdiv_pos {x : Int} (h : 0 ≤ x) (k : Nat) : Int.tdiv x (k : Int) = x / (k : Int) := Int.tdiv_eq_ediv_of_nonneg h
theorem mx_eq (a b : Int) : mx a b = max a b := by unfold mx; omega
theorem mn_eq (a b : Int) : mn a b = min a b := by unfold mn; omega
abbrev Sp := S25
/-! Sets of spans, as lists: what is in them, and that a set has one list alone. -/
def Mem (n : Int) (l : List Sp) : Prop := ∃ s ∈ l, s.f0 ≤ n ∧ n < s.f1
def Ok (l : List Sp) : Prop := (∀ s ∈ l, s.f0 < s.f1) ∧ l.Pairwise (fun a b => a.f1 < b.f0)
theorem mem_nil {n : Int} : ¬ Mem n [] := by intro ⟨s, h, _⟩; cases h
theorem mem_cons {n : Int} {s : Sp} {l : List Sp} : Mem n (s :: l) ↔ (s.f0 ≤ n ∧ n < s.f1) ∨ Mem n l := by
  constructor
  · intro ⟨u, h, q⟩
    rcases List.mem_cons.mp h with e | e
    · rw [e] at q; exact .inl q
    · exact .inr ⟨u, e, q⟩
  · intro h
    rcases h with q | ⟨u, e, q⟩
    · exact ⟨s, List.mem_cons_self .., q⟩
    · exact ⟨u, List.mem_cons_of_mem _ e, q⟩
theorem mem_append {n : Int} {a b : List Sp} : Mem n (a ++ b) ↔ Mem n a ∨ Mem n b := by
  constructor
  · intro ⟨u, h, q⟩
    rcases List.mem_append.mp h with e | e
    · exact .inl ⟨u, e, q⟩
    · exact .inr ⟨u, e, q⟩
  · intro h
    rcases h with ⟨u, e, q⟩ | ⟨u, e, q⟩
    · exact ⟨u, List.mem_append_left _ e, q⟩
    · exact ⟨u, List.mem_append_right _ e, q⟩
theorem mem_one {n : Int} {s : Sp} : Mem n [s] ↔ s.f0 ≤ n ∧ n < s.f1 := by
  rw [mem_cons]
  constructor
  · intro h
    rcases h with h | h
    · exact h
    · exact absurd h mem_nil
  · exact .inl
theorem ok_nil : Ok [] := ⟨by simp, List.Pairwise.nil⟩
theorem ok_cons {s : Sp} {l : List Sp} : Ok (s :: l) ↔ s.f0 < s.f1 ∧ (∀ u ∈ l, s.f1 < u.f0) ∧ Ok l := by
  unfold Ok
  rw [List.pairwise_cons]
  constructor
  · intro ⟨h1, h2, h3⟩
    exact ⟨h1 s (List.mem_cons_self ..), h2, fun u hu => h1 u (List.mem_cons_of_mem _ hu), h3⟩
  · intro ⟨h1, h2, h3, h4⟩
    refine ⟨fun u hu => ?_, h2, h4⟩
    rcases List.mem_cons.mp hu with e | e
    · rw [e]; exact h1
    · exact h3 u e
theorem ok_append {a b : List Sp} : Ok (a ++ b) ↔ Ok a ∧ Ok b ∧ ∀ x ∈ a, ∀ y ∈ b, x.f1 < y.f0 := by
  unfold Ok
  rw [List.pairwise_append]
  constructor
  · intro ⟨h1, h2, h3, h4⟩
    exact ⟨⟨fun u hu => h1 u (List.mem_append_left _ hu), h2⟩, ⟨fun u hu => h1 u (List.mem_append_right _ hu), h3⟩, h4⟩
  · intro ⟨⟨h1, h2⟩, ⟨h3, h4⟩, h5⟩
    refine ⟨fun u hu => ?_, h2, h4, h5⟩
    rcases List.mem_append.mp hu with e | e
    · exact h1 u e
    · exact h3 u e
theorem ok_one {s : Sp} (h : s.f0 < s.f1) : Ok [s] := ok_cons.mpr ⟨h, by simp, ok_nil⟩
theorem ok_mem {l : List Sp} (h : Ok l) {s : Sp} (hs : s ∈ l) : Mem s.f0 l := ⟨s, hs, Int.le_refl _, h.1 s hs⟩
/-- A list of spans, and a set, are one. -/
theorem ok_ext : ∀ {a b : List Sp}, Ok a → Ok b → (∀ n, Mem n a ↔ Mem n b) → a = b := by
  intro a
  induction a with
  | nil =>
    intro b _ hb h
    cases b with
    | nil => rfl
    | cons s t => exact absurd ((h s.f0).mpr (ok_mem hb (List.mem_cons_self ..))) mem_nil
  | cons s t ih =>
    intro b ha hb h
    cases b with
    | nil => exact absurd ((h s.f0).mp (ok_mem ha (List.mem_cons_self ..))) mem_nil
    | cons u v =>
      obtain ⟨a1, a2, a3⟩ := ok_cons.mp ha
      obtain ⟨b1, b2, b3⟩ := ok_cons.mp hb
      have la : ∀ n, Mem n t → s.f1 < n := by intro n ⟨x, hx, q⟩; have := a2 x hx; omega
      have lb : ∀ n, Mem n v → u.f1 < n := by intro n ⟨x, hx, q⟩; have := b2 x hx; omega
      have e0 : s.f0 = u.f0 := by
        have q1 := mem_cons.mp ((h s.f0).mp (ok_mem ha (List.mem_cons_self ..)))
        have q2 := mem_cons.mp ((h u.f0).mpr (ok_mem hb (List.mem_cons_self ..)))
        rcases q1 with q1 | q1 <;> rcases q2 with q2 | q2
        · omega
        · have := la _ q2; omega
        · have := lb _ q1; omega
        · have := la _ q2; have := lb _ q1; omega
      have e1 : s.f1 = u.f1 := by
        by_cases c1 : s.f1 < u.f1
        · rcases mem_cons.mp ((h s.f1).mpr (mem_cons.mpr (.inl ⟨by omega, c1⟩))) with q | q
          · omega
          · have := la _ q; omega
        · by_cases c2 : u.f1 < s.f1
          · rcases mem_cons.mp ((h u.f1).mp (mem_cons.mpr (.inl ⟨by omega, c2⟩))) with q | q
            · omega
            · have := lb _ q; omega
          · omega
      have es : s = u := by cases s; cases u; simp only at e0 e1; rw [e0, e1]
      rw [es, ih a3 b3]
      intro n
      constructor
      · intro q
        rcases mem_cons.mp ((h n).mp (mem_cons.mpr (.inr q))) with r | r
        · have := la _ q; omega
        · exact r
      · intro q
        rcases mem_cons.mp ((h n).mpr (mem_cons.mpr (.inr q))) with r | r
        · have := lb _ q; omega
        · exact r
/-- What is put in. -/
def addL : List Sp → Int → Int → List Sp
  | [], a, b => [⟨a, b⟩]
  | x :: t, a, b => if x.f1 < a then x :: addL t a b else if b < x.f0 then ⟨a, b⟩ :: x :: t else addL t (if x.f0 < a then x.f0 else a) (if b < x.f1 then x.f1 else b)
theorem addL_ok {l : List Sp} : ∀ {a b : Int}, Ok l → a < b → Ok (addL l a b) ∧ ∀ n, Mem n (addL l a b) ↔ Mem n l ∨ (a ≤ n ∧ n < b) := by
  induction l with
  | nil =>
    intro a b _ h
    refine ⟨ok_one h, fun n => ?_⟩
    rw [addL, mem_one]
    constructor
    · exact .inr
    · intro q; rcases q with q | q; exact absurd q mem_nil; exact q
  | cons x t ih =>
    intro a b hl h
    obtain ⟨h1, h2, h3⟩ := ok_cons.mp hl
    have lt : ∀ n, Mem n t → x.f1 < n := by intro n ⟨y, hy, q⟩; have := h2 y hy; omega
    rw [addL]
    by_cases c1 : x.f1 < a
    · rw [if_pos c1]
      obtain ⟨o, m⟩ := ih h3 h
      refine ⟨ok_cons.mpr ⟨h1, fun u hu => ?_, o⟩, fun n => ?_⟩
      · rcases (m u.f0).mp (ok_mem o hu) with q | q
        · exact lt _ q
        · omega
      · rw [mem_cons, mem_cons, m n, or_assoc]
    · rw [if_neg c1]
      by_cases c2 : b < x.f0
      · rw [if_pos c2]
        refine ⟨ok_cons.mpr ⟨h, fun u hu => ?_, hl⟩, fun n => ?_⟩
        · rcases List.mem_cons.mp hu with e | e
          · rw [e]; exact c2
          · have := h2 u e
            show b < u.f0
            omega
        · rw [mem_cons (s := (⟨a, b⟩ : Sp)), or_comm]
      · rw [if_neg c2]
        have ea : (if x.f0 < a then x.f0 else a) ≤ a ∧ (if x.f0 < a then x.f0 else a) ≤ x.f0 ∧ ((if x.f0 < a then x.f0 else a) = a ∨ (if x.f0 < a then x.f0 else a) = x.f0) := by split <;> omega
        have eb : b ≤ (if b < x.f1 then x.f1 else b) ∧ x.f1 ≤ (if b < x.f1 then x.f1 else b) ∧ ((if b < x.f1 then x.f1 else b) = b ∨ (if b < x.f1 then x.f1 else b) = x.f1) := by split <;> omega
        generalize (if x.f0 < a then x.f0 else a) = a' at *
        generalize (if b < x.f1 then x.f1 else b) = b' at *
        obtain ⟨o, m⟩ := ih (a := a') (b := b') h3 (by omega)
        refine ⟨o, fun n => ?_⟩
        rw [m n, mem_cons]
        constructor
        · intro q
          rcases q with q | q
          · exact .inl (.inr q)
          · by_cases r : a ≤ n ∧ n < b
            · exact .inr r
            · exact .inl (.inl (by omega))
        · intro q
          rcases q with (q | q) | q
          · exact .inr (by omega)
          · exact .inl q
          · exact .inr (by omega)
/-- What is taken out. -/
def cut1 (x : Sp) (a b : Int) : List Sp := (if x.f0 < (if a < x.f1 then a else x.f1) then [⟨x.f0, if a < x.f1 then a else x.f1⟩] else []) ++ (if (if x.f0 < b then b else x.f0) < x.f1 then [⟨if x.f0 < b then b else x.f0, x.f1⟩] else [])
def cutL (l : List Sp) (a b : Int) : List Sp := l.flatMap (fun x => cut1 x a b)
theorem cut1_ok {x : Sp} {a b : Int} (h : a < b) : Ok (cut1 x a b) ∧ (∀ n, Mem n (cut1 x a b) ↔ (x.f0 ≤ n ∧ n < x.f1) ∧ ¬ (a ≤ n ∧ n < b)) ∧ ∀ u ∈ cut1 x a b, x.f0 ≤ u.f0 ∧ u.f0 < u.f1 ∧ u.f1 ≤ x.f1 := by
  unfold cut1
  by_cases c1 : a < x.f1 <;> by_cases c2 : x.f0 < b <;> simp only [c1, c2, if_true, if_false]
  · by_cases d1 : x.f0 < a <;> by_cases d2 : b < x.f1 <;> simp only [d1, d2, if_true, if_false, List.nil_append, List.append_nil]
    · refine ⟨ok_append.mpr ⟨ok_one d1, ok_one d2, by simpa using h⟩, fun n => ?_, by simp; omega⟩
      rw [mem_append, mem_one, mem_one]; simp only; omega
    · refine ⟨ok_one d1, fun n => ?_, by simp; omega⟩
      rw [mem_one]; simp only; omega
    · refine ⟨ok_one d2, fun n => ?_, by simp; omega⟩
      rw [mem_one]; simp only; omega
    · refine ⟨ok_nil, fun n => ?_, by simp⟩
      constructor
      · intro q; exact absurd q mem_nil
      · omega
  · by_cases d1 : x.f0 < a <;> by_cases d2 : x.f0 < x.f1 <;> simp only [d1, d2, if_true, if_false, List.nil_append, List.append_nil] <;> first | omega | skip
    · refine ⟨ok_one d2, fun n => ?_, by simp; omega⟩
      rw [mem_one]; simp only; omega
    · refine ⟨ok_nil, fun n => ?_, by simp⟩
      constructor
      · intro q; exact absurd q mem_nil
      · omega
  · by_cases d1 : x.f0 < x.f1 <;> by_cases d2 : b < x.f1 <;> simp only [d1, d2, if_true, if_false, List.nil_append, List.append_nil] <;> first | omega | skip
    · refine ⟨ok_one d1, fun n => ?_, by simp; omega⟩
      rw [mem_one]; simp only; omega
    · refine ⟨ok_nil, fun n => ?_, by simp⟩
      constructor
      · intro q; exact absurd q mem_nil
      · omega
  · have d1 : ¬ x.f0 < x.f1 := by omega
    simp only [d1, if_false, List.append_nil]
    refine ⟨ok_nil, fun n => ?_, by simp⟩
    constructor
    · intro q; exact absurd q mem_nil
    · omega
theorem cutL_ok {l : List Sp} {a b : Int} (hl : Ok l) (h : a < b) : Ok (cutL l a b) ∧ ∀ n, Mem n (cutL l a b) ↔ Mem n l ∧ ¬ (a ≤ n ∧ n < b) := by
  induction l with
  | nil => exact ⟨ok_nil, fun n => ⟨fun q => absurd q mem_nil, fun q => absurd q.1 mem_nil⟩⟩
  | cons x t ih =>
    obtain ⟨h1, h2, h3⟩ := ok_cons.mp hl
    obtain ⟨o, m⟩ := ih h3
    obtain ⟨o1, m1, r1⟩ := cut1_ok (x := x) h
    have e : cutL (x :: t) a b = cut1 x a b ++ cutL t a b := by simp [cutL]
    rw [e]
    refine ⟨ok_append.mpr ⟨o1, o, fun u hu y hy => ?_⟩, fun n => ?_⟩
    · have q := (m y.f0).mp (ok_mem o hy)
      obtain ⟨⟨z, hz, q⟩, _⟩ := q
      have := h2 z hz
      have := r1 u hu
      omega
    · rw [mem_append, m1 n, m n, mem_cons]
      constructor
      · intro q
        rcases q with ⟨q, r⟩ | ⟨q, r⟩
        · exact ⟨.inl q, r⟩
        · exact ⟨.inr q, r⟩
      · intro ⟨q, r⟩
        rcases q with q | q
        · exact .inl ⟨q, r⟩
        · exact .inr ⟨q, r⟩
/-- What is in two. -/
def bothL : List Sp → List Sp → Nat → List Sp
  | _, _, 0 => []
  | [], _, _ => []
  | _, [], _ => []
  | x :: s, y :: t, k + 1 => (if (if x.f0 < y.f0 then y.f0 else x.f0) < (if y.f1 < x.f1 then y.f1 else x.f1) then [(⟨if x.f0 < y.f0 then y.f0 else x.f0, if y.f1 < x.f1 then y.f1 else x.f1⟩ : Sp)] else []) ++ (if x.f1 < y.f1 then bothL s (y :: t) k else bothL (x :: s) t k)
theorem bothL_ok : ∀ (k : Nat) {a b : List Sp}, Ok a → Ok b → a.length + b.length ≤ k → Ok (bothL a b k) ∧ ∀ n, Mem n (bothL a b k) ↔ Mem n a ∧ Mem n b := by
  intro k
  induction k with
  | zero =>
    intro a b _ _ h
    have : a = [] := List.eq_nil_of_length_eq_zero (by omega)
    subst this
    exact ⟨by unfold bothL; exact ok_nil, fun n => ⟨fun q => by unfold bothL at q; exact absurd q mem_nil, fun q => absurd q.1 mem_nil⟩⟩
  | succ k ih =>
    intro a b ha hb h
    cases a with
    | nil => exact ⟨by unfold bothL; exact ok_nil, fun n => ⟨fun q => by unfold bothL at q; exact absurd q mem_nil, fun q => absurd q.1 mem_nil⟩⟩
    | cons x s =>
      cases b with
      | nil => exact ⟨by unfold bothL; exact ok_nil, fun n => ⟨fun q => by unfold bothL at q; exact absurd q mem_nil, fun q => absurd q.2 mem_nil⟩⟩
      | cons y t =>
        obtain ⟨a1, a2, a3⟩ := ok_cons.mp ha
        obtain ⟨b1, b2, b3⟩ := ok_cons.mp hb
        have la : ∀ n, Mem n s → x.f1 < n := by intro n ⟨z, hz, q⟩; have := a2 z hz; omega
        have lb : ∀ n, Mem n t → y.f1 < n := by intro n ⟨z, hz, q⟩; have := b2 z hz; omega
        simp only [List.length_cons] at h
        rw [bothL]
        have e0 : x.f0 ≤ (if x.f0 < y.f0 then y.f0 else x.f0) ∧ y.f0 ≤ (if x.f0 < y.f0 then y.f0 else x.f0) ∧ ((if x.f0 < y.f0 then y.f0 else x.f0) = x.f0 ∨ (if x.f0 < y.f0 then y.f0 else x.f0) = y.f0) := by split <;> omega
        have e1 : (if y.f1 < x.f1 then y.f1 else x.f1) ≤ x.f1 ∧ (if y.f1 < x.f1 then y.f1 else x.f1) ≤ y.f1 ∧ ((if y.f1 < x.f1 then y.f1 else x.f1) = x.f1 ∨ (if y.f1 < x.f1 then y.f1 else x.f1) = y.f1) := by split <;> omega
        generalize (if x.f0 < y.f0 then y.f0 else x.f0) = p at *
        generalize (if y.f1 < x.f1 then y.f1 else x.f1) = q at *
        have first : ∀ (r : List Sp), Ok r → (∀ n, Mem n r → q < n) → (∀ n, Mem n r ↔ (Mem n (x :: s) ∧ Mem n (y :: t)) ∧ q < n) → Ok ((if p < q then [(⟨p, q⟩ : Sp)] else []) ++ r) ∧ ∀ n, Mem n ((if p < q then [(⟨p, q⟩ : Sp)] else []) ++ r) ↔ Mem n (x :: s) ∧ Mem n (y :: t) := by
          intro r ro rq rm
          have key : ∀ n, n ≤ q → ((Mem n (x :: s) ∧ Mem n (y :: t)) ↔ p ≤ n ∧ n < q) := by
            intro n hn
            rw [mem_cons, mem_cons]
            constructor
            · intro ⟨u, v⟩
              rcases u with u | u <;> rcases v with v | v
              · omega
              · have := lb _ v; omega
              · have := la _ u; omega
              · have := la _ u; omega
            · intro u
              exact ⟨.inl (by omega), .inl (by omega)⟩
          by_cases c : p < q
          · rw [if_pos c]
            refine ⟨ok_append.mpr ⟨ok_one c, ro, fun u hu z hz => ?_⟩, fun n => ?_⟩
            · rw [List.mem_singleton.mp hu]
              exact rq _ (ok_mem ro hz)
            · rw [mem_append, mem_one, rm n]
              simp only
              constructor
              · intro w
                rcases w with w | w
                · exact (key n (by omega)).mpr w
                · exact w.1
              · intro w
                by_cases d : q < n
                · exact .inr ⟨w, d⟩
                · exact .inl ((key n (by omega)).mp w)
          · rw [if_neg c, List.nil_append]
            refine ⟨ro, fun n => ?_⟩
            rw [rm n]
            constructor
            · exact fun w => w.1
            · intro w
              by_cases d : q < n
              · exact ⟨w, d⟩
              · have := (key n (by omega)).mp w
                omega
        by_cases c : x.f1 < y.f1
        · rw [if_pos c]
          obtain ⟨o, m⟩ := ih (a := s) (b := y :: t) a3 hb (by simp only [List.length_cons]; omega)
          refine first _ o (fun n w => ?_) (fun n => ?_)
          · have := la n ((m n).mp w).1; omega
          · rw [m n, mem_cons (s := x)]
            constructor
            · intro ⟨u, v⟩
              have := la n u
              exact ⟨⟨.inr u, v⟩, by omega⟩
            · intro ⟨⟨u, v⟩, w⟩
              rcases u with u | u
              · rcases mem_cons.mp v with v' | v'
                · omega
                · have := lb _ v'; omega
              · exact ⟨u, v⟩
        · rw [if_neg c]
          obtain ⟨o, m⟩ := ih (a := x :: s) (b := t) ha b3 (by simp only [List.length_cons]; omega)
          refine first _ o (fun n w => ?_) (fun n => ?_)
          · have := lb n ((m n).mp w).2; omega
          · rw [m n, mem_cons (s := y)]
            constructor
            · intro ⟨u, v⟩
              have := lb n v
              exact ⟨⟨u, .inr v⟩, by omega⟩
            · intro ⟨⟨u, v⟩, w⟩
              rcases v with v | v
              · rcases mem_cons.mp u with u' | u'
                · omega
                · have := la _ u'; omega
              · exact ⟨u, v⟩
/-- The document's own: a span behind all, joined to the last one. -/
def joinL (l : List Sp) (s : Sp) : List Sp := if s.f1 ≤ s.f0 then l else match l.getLast? with
  | none => l ++ [s]
  | some z => if z.f1 < s.f0 then l ++ [s] else if z.f1 < s.f1 then l.dropLast ++ [⟨z.f0, s.f1⟩] else l
theorem joinL_snoc (l : List Sp) (z s : Sp) : joinL (l ++ [z]) s = if s.f1 ≤ s.f0 then l ++ [z] else if z.f1 < s.f0 then l ++ [z] ++ [s] else if z.f1 < s.f1 then l ++ [⟨z.f0, s.f1⟩] else l ++ [z] := by
  unfold joinL
  simp
theorem join_ok {l : List Sp} {s : Sp} (h : Ok l) (hs : s.f0 < s.f1 → ∀ u ∈ l, u.f0 ≤ s.f0) : Ok (joinL l s) ∧ (∀ n, Mem n (joinL l s) ↔ Mem n l ∨ (s.f0 ≤ n ∧ n < s.f1)) ∧ ∀ u ∈ joinL l s, u ∈ l ∨ (s.f0 < s.f1 ∧ u.f0 ≤ s.f0) := by
  rcases List.eq_nil_or_concat l with rfl | ⟨t, z, rfl⟩
  · by_cases c : s.f1 ≤ s.f0
    · have e : joinL [] s = [] := by unfold joinL; rw [if_pos c]
      rw [e]
      refine ⟨ok_nil, fun n => ?_, fun u hu => .inl hu⟩
      constructor
      · intro q; exact .inl q
      · intro q; rcases q with q | q; exact q; omega
    · have e : joinL [] s = [s] := by unfold joinL; rw [if_neg c]; rfl
      rw [e]
      refine ⟨ok_one (by omega), fun n => ?_, fun u hu => .inr ⟨by omega, by rw [List.mem_singleton.mp hu]; exact Int.le_refl _⟩⟩
      rw [mem_one]
      constructor
      · exact .inr
      · intro q; rcases q with q | q; exact absurd q mem_nil; exact q
  · simp only [List.concat_eq_append] at h hs ⊢
    rw [joinL_snoc]
    by_cases c : s.f1 ≤ s.f0
    · rw [if_pos c]
      refine ⟨h, fun n => ?_, fun u hu => .inl hu⟩
      constructor
      · intro q; exact .inl q
      · intro q; rcases q with q | q; exact q; omega
    · rw [if_neg c]
      have hs := hs (by omega)
      have hz := hs z (List.mem_append_right _ (List.mem_singleton.mpr rfl))
      obtain ⟨h1, h2, h3⟩ := ok_append.mp h
      have hz1 := h2.1 z (List.mem_singleton.mpr rfl)
      by_cases c1 : z.f1 < s.f0
      · rw [if_pos c1]
        refine ⟨ok_append.mpr ⟨h, ok_one (by omega), fun x hx y hy => ?_⟩, fun n => ?_, fun u hu => ?_⟩
        · rw [List.mem_singleton.mp hy]
          rcases List.mem_append.mp hx with q | q
          · have := h3 x q z (List.mem_singleton.mpr rfl); omega
          · rw [List.mem_singleton.mp q]; exact c1
        · rw [mem_append, mem_one]
        · rcases List.mem_append.mp hu with q | q
          · exact .inl q
          · rw [List.mem_singleton.mp q]; exact .inr ⟨by omega, Int.le_refl _⟩
      · rw [if_neg c1]
        by_cases c2 : z.f1 < s.f1
        · rw [if_pos c2]
          refine ⟨ok_append.mpr ⟨h1, ok_one (show z.f0 < s.f1 by omega), fun x hx y hy => ?_⟩, fun n => ?_, fun u hu => ?_⟩
          · rw [List.mem_singleton.mp hy]
            exact h3 x hx z (List.mem_singleton.mpr rfl)
          · rw [mem_append, mem_one, mem_append, mem_one, or_assoc]
            simp only
            constructor
            · intro q
              rcases q with q | q
              · exact .inl q
              · by_cases d : n < z.f1
                · exact .inr (.inl (by omega))
                · exact .inr (.inr (by omega))
            · intro q
              rcases q with q | q | q
              · exact .inl q
              · exact .inr (by omega)
              · exact .inr (by omega)
          · rcases List.mem_append.mp hu with q | q
            · exact .inl (List.mem_append_left _ q)
            · rw [List.mem_singleton.mp q]; exact .inr ⟨by omega, hz⟩
        · rw [if_neg c2]
          refine ⟨h, fun n => ?_, fun u hu => .inl hu⟩
          constructor
          · intro q; exact .inl q
          · intro q
            rcases q with q | q
            · exact q
            · exact mem_append.mpr (.inr (mem_one.mpr (by omega)))
def Le0 (x y : Sp) : Prop := x.f0 < x.f1 → y.f0 < y.f1 → x.f0 ≤ y.f0
theorem joins_ok : ∀ (ps : List Sp) {l : List Sp}, Ok l → ps.Pairwise Le0 → (∀ u ∈ l, ∀ p ∈ ps, p.f0 < p.f1 → u.f0 ≤ p.f0) → Ok (ps.foldl joinL l) ∧ ∀ n, Mem n (ps.foldl joinL l) ↔ Mem n l ∨ Mem n ps := by
  intro ps
  induction ps with
  | nil => intro l h _ _; exact ⟨h, fun n => ⟨.inl, fun q => by rcases q with q | q; exact q; exact absurd q mem_nil⟩⟩
  | cons p ps ih =>
    intro l h hp hl
    obtain ⟨p1, p2⟩ := List.pairwise_cons.mp hp
    obtain ⟨o, m, b⟩ := join_ok h (fun c u hu => hl u hu p (List.mem_cons_self ..) c)
    obtain ⟨o2, m2⟩ := ih o p2 (fun u hu q hq c => by
      rcases b u hu with r | ⟨r1, r2⟩
      · exact hl u r q (List.mem_cons_of_mem _ hq) c
      · have := p1 q hq r1 c; omega)
    refine ⟨o2, fun n => ?_⟩
    show Mem n (ps.foldl joinL (joinL l p)) ↔ _
    rw [m2 n, m n, mem_cons, or_assoc]
theorem joins_nil {ps : List Sp} (h : ps.Pairwise Le0) : Ok (ps.foldl joinL []) ∧ ∀ n, Mem n (ps.foldl joinL []) ↔ Mem n ps := by
  obtain ⟨o, m⟩ := joins_ok ps ok_nil h (by simp)
  refine ⟨o, fun n => ?_⟩
  rw [m n]
  constructor
  · intro q; rcases q with q | q; exact absurd q mem_nil; exact q
  · exact .inr
/-- Whatever order joins in gives the set's one list. -/
theorem joins_eq {ps l : List Sp} (h : ps.Pairwise Le0) (hl : Ok l) (hm : ∀ n, Mem n l ↔ Mem n ps) : ps.foldl joinL [] = l := by
  obtain ⟨o, m⟩ := joins_nil h
  exact ok_ext o hl (fun n => (m n).trans (hm n).symm)
theorem ok_le0 {l : List Sp} (h : Ok l) : l.Pairwise Le0 := by
  refine List.Pairwise.imp_of_mem ?_ h.2
  intro a b ha hb r _ _
  have := h.1 a ha
  omega
/-- A span put into its place. -/
def insL : List Sp → Sp → List Sp
  | [], s => [s]
  | x :: t, s => if s.f0 ≤ x.f0 then s :: x :: t else x :: insL t s
theorem mem_ins {l : List Sp} {s : Sp} {n : Int} : Mem n (insL l s) ↔ Mem n l ∨ (s.f0 ≤ n ∧ n < s.f1) := by
  induction l with
  | nil => rw [insL, mem_one]; constructor
           · exact .inr
           · intro q; rcases q with q | q
             · exact absurd q mem_nil
             · exact q
  | cons x t ih =>
    rw [insL]
    split
    · rw [mem_cons, or_comm]
    · rw [mem_cons, mem_cons, ih, or_assoc]
theorem in_ins {l : List Sp} {s u : Sp} (h : u ∈ insL l s) : u = s ∨ u ∈ l := by
  induction l with
  | nil => exact .inl (List.mem_singleton.mp h)
  | cons x t ih =>
    rw [insL] at h
    split at h
    · rcases List.mem_cons.mp h with q | q
      · exact .inl q
      · exact .inr q
    · rcases List.mem_cons.mp h with q | q
      · exact .inr (by rw [q]; exact List.mem_cons_self ..)
      · rcases ih q with r | r
        · exact .inl r
        · exact .inr (List.mem_cons_of_mem _ r)
theorem ins_le0 {l : List Sp} {s : Sp} (h : Ok l) : (insL l s).Pairwise Le0 := by
  induction l with
  | nil => rw [insL]; simp
  | cons x t ih =>
    obtain ⟨h1, h2, h3⟩ := ok_cons.mp h
    rw [insL]
    split
    · rename_i c
      refine List.pairwise_cons.mpr ⟨fun u hu _ _ => ?_, ok_le0 h⟩
      rcases List.mem_cons.mp hu with q | q
      · rw [q]; exact c
      · have := h2 u q; omega
    · rename_i c
      refine List.pairwise_cons.mpr ⟨fun u hu _ _ => ?_, ih h3⟩
      rcases in_ins hu with q | q
      · rw [q]; omega
      · have := h2 u q; omega
/-- What two spans both have. -/
def meetL (a b : Sp) : Sp := ⟨if a.f0 < b.f0 then b.f0 else a.f0, if b.f1 < a.f1 then b.f1 else a.f1⟩
theorem meet_bd (a b : Sp) : a.f0 ≤ (meetL a b).f0 ∧ b.f0 ≤ (meetL a b).f0 ∧ (meetL a b).f1 ≤ a.f1 ∧ (meetL a b).f1 ≤ b.f1 := by
  unfold meetL
  refine ⟨?_, ?_, ?_, ?_⟩ <;> simp only <;> split <;> omega
theorem in_meet {a b : Sp} {n : Int} : ((meetL a b).f0 ≤ n ∧ n < (meetL a b).f1) ↔ (a.f0 ≤ n ∧ n < a.f1) ∧ (b.f0 ≤ n ∧ n < b.f1) := by
  unfold meetL
  simp only
  constructor
  · intro ⟨h1, h2⟩
    split at h1 <;> split at h2 <;> omega
  · intro ⟨⟨h1, h2⟩, h3, h4⟩
    split <;> split <;> omega
theorem mem_flatMap {α : Type} {f : α → List Sp} {l : List α} {n : Int} : Mem n (l.flatMap f) ↔ ∃ x ∈ l, Mem n (f x) := by
  constructor
  · intro ⟨s, h, q⟩
    obtain ⟨x, hx, hs⟩ := List.mem_flatMap.mp h
    exact ⟨x, hx, s, hs, q⟩
  · intro ⟨x, hx, s, hs, q⟩
    exact ⟨s, List.mem_flatMap.mpr ⟨x, hx, hs⟩, q⟩
theorem rcut_eq {l : List Sp} {a b N : Int} (hl : Ok l) (h : a < b) (h0 : ∀ s ∈ l, 0 ≤ s.f0) (hN : ∀ s ∈ l, s.f1 ≤ N) : (l.flatMap (fun x => [meetL x ⟨0, a⟩, meetL x ⟨b, N⟩])).foldl joinL [] = cutL l a b := by
  obtain ⟨o, m⟩ := cutL_ok hl h
  refine joins_eq ?_ o (fun n => ?_)
  · refine List.pairwise_flatMap.mpr ⟨fun x hx => ?_, ?_⟩
    · refine List.pairwise_cons.mpr ⟨fun u hu => ?_, by simp⟩
      rw [List.mem_singleton.mp hu]
      intro c1 c2
      have h1 := meet_bd x ⟨0, a⟩
      have h2 := meet_bd x ⟨b, N⟩
      simp only at h1 h2
      omega
    · refine List.Pairwise.imp_of_mem ?_ hl.2
      intro x y hx hy r u hu v hv c1 c2
      have hu' : u.f1 ≤ x.f1 := by
        rcases List.mem_cons.mp hu with q | q
        · rw [q]; exact (meet_bd x _).2.2.1
        · rw [List.mem_singleton.mp q]; exact (meet_bd x _).2.2.1
      have hv' : y.f0 ≤ v.f0 := by
        rcases List.mem_cons.mp hv with q | q
        · rw [q]; exact (meet_bd y _).1
        · rw [List.mem_singleton.mp q]; exact (meet_bd y _).1
      omega
  · rw [m n, mem_flatMap]
    constructor
    · intro ⟨⟨s, hs, q⟩, r⟩
      have := h0 s hs
      have := hN s hs
      refine ⟨s, hs, mem_cons.mpr ?_⟩
      by_cases c : n < a
      · exact .inl (in_meet.mpr ⟨q, by simp only; omega⟩)
      · exact .inr (mem_one.mpr (in_meet.mpr ⟨q, by simp only; omega⟩))
    · intro ⟨x, hx, q⟩
      rcases mem_cons.mp q with q | q
      · have := in_meet.mp q
        simp only at this
        exact ⟨⟨x, hx, this.1⟩, by omega⟩
      · have := in_meet.mp (mem_one.mp q)
        simp only at this
        exact ⟨⟨x, hx, this.1⟩, by omega⟩
theorem radd_eq {l : List Sp} {a b : Int} (hl : Ok l) (h : a < b) : (insL l ⟨a, b⟩).foldl joinL [] = addL l a b := by
  obtain ⟨o, m⟩ := addL_ok hl h
  exact joins_eq (ins_le0 hl) o (fun n => by rw [m n, mem_ins])
theorem join_empty {l : List Sp} {s : Sp} (h : s.f1 ≤ s.f0) : joinL l s = l := by unfold joinL; rw [if_pos h]
theorem joins_self {l : List Sp} (h : Ok l) : l.foldl joinL [] = l := joins_eq (ok_le0 h) h (fun _ => Iff.rfl)
theorem radd_none {l : List Sp} {s : Sp} (hl : Ok l) (h : s.f1 ≤ s.f0) : (insL l s).foldl joinL [] = l := by
  refine joins_eq (ins_le0 hl) hl (fun n => ?_)
  rw [mem_ins]
  constructor
  · exact .inl
  · intro q; rcases q with q | q; exact q; omega
theorem rboth_eq {a b : List Sp} (ha : Ok a) (hb : Ok b) {k : Nat} (hk : a.length + b.length ≤ k) : (a.flatMap (fun x => b.map (meetL x))).foldl joinL [] = bothL a b k := by
  obtain ⟨o, m⟩ := bothL_ok k ha hb hk
  refine joins_eq ?_ o (fun n => ?_)
  · refine List.pairwise_flatMap.mpr ⟨fun x hx => ?_, ?_⟩
    · rw [List.pairwise_map]
      refine List.Pairwise.imp_of_mem ?_ hb.2
      intro u v hu hv r c1 c2
      have := meet_bd x u
      have := meet_bd x v
      omega
    · refine List.Pairwise.imp_of_mem ?_ ha.2
      intro x y hx hy r u hu v hv c1 c2
      obtain ⟨p, hp, rfl⟩ := List.mem_map.mp hu
      obtain ⟨q, hq, rfl⟩ := List.mem_map.mp hv
      have := meet_bd x p
      have := meet_bd y q
      omega
  · rw [m n, mem_flatMap]
    constructor
    · intro ⟨⟨s, hs, q⟩, ⟨t, ht, r⟩⟩
      exact ⟨s, hs, meetL s t, List.mem_map.mpr ⟨t, ht, rfl⟩, in_meet.mpr ⟨q, r⟩⟩
    · intro ⟨x, hx, u, hu, q⟩
      obtain ⟨t, ht, rfl⟩ := List.mem_map.mp hu
      have := in_meet.mp q
      exact ⟨⟨x, hx, this.1⟩, ⟨t, ht, this.2⟩⟩
theorem sp_rd {l : List Sp} {j : Nat} (h : j < l.length) : rd_T25 l (j : Int) = l[j] := by
  unfold rd_T25
  rw [Int.toNat_natCast, List.getD_eq_getElem?_getD, List.getElem?_eq_getElem h]
  rfl
theorem sp_up {j n : Nat} (h : j < n) (hn : n < 1000000) : wrap64 ((j : Int) + 1) = ((j + 1 : Nat) : Int) := by unfold wrap64; omega
theorem sp_dn {j n : Nat} (h : j < n) (hn : n < 1000000) : wrap64 (((j + 1 : Nat) : Int) - 1) = (j : Int) := by unfold wrap64; omega
theorem clone_eq {l : List Sp} (h : l.length < 1000000) : api_Span_29.f l = some l := by
  unfold api_Span_29.f
  rw [Option.bind_some, if_pos (by simp; omega), List.nil_append]
theorem add_loop {l : List Sp} (hn : l.length < 1000000) (d : Nat) : ∀ (j k : Nat) (out : List Sp) (a b : Int), j + d = l.length → d + 1 ≤ k → out.length ≤ j → span_Add.l0 k l out (j : Int) a b = some (out ++ addL (l.drop j) a b) := by
  induction d with
  | zero =>
    intro j k out a b hj hk ho
    obtain ⟨k, rfl⟩ : ∃ m, k = m + 1 := ⟨k - 1, by omega⟩
    have e : l.drop j = [] := List.drop_eq_nil_of_le (by omega)
    rw [span_Add.l0, if_neg (by omega), if_pos (by omega), Option.bind_some, if_pos (by omega), if_pos (by omega), Option.bind_some, Int.toNat_natCast, e, if_pos (by simp; omega)]
    rw [addL, List.append_nil]
  | succ d ih =>
    intro j k out a b hj hk ho
    obtain ⟨k, rfl⟩ : ∃ m, k = m + 1 := ⟨k - 1, by omega⟩
    have hjl : j < l.length := by omega
    have e := List.drop_eq_getElem_cons hjl
    rw [span_Add.l0, if_pos (by omega), if_pos (by omega), sp_rd hjl, sp_up hjl hn]
    by_cases c1 : (l[j]).f1 < a
    · rw [if_pos c1, if_pos (by omega), ih (j + 1) k _ a b (by omega) (by omega) (by simp; omega), e, addL, if_pos c1, List.append_assoc]
      rfl
    · rw [if_neg c1]
      by_cases c2 : b < (l[j]).f0
      · rw [if_pos c2, if_pos (by omega), Option.bind_some, if_pos (by omega), Option.bind_some, Int.toNat_natCast, if_pos (by simp; omega), e, addL, if_neg c1, if_pos c2, List.append_assoc]
        rfl
      · rw [if_neg c2, ih (j + 1) k out _ _ (by omega) (by omega) (by omega), e, addL, if_neg c1, if_neg c2]
        rfl
def addS (l : List Sp) (a b : Int) : List Sp := if b ≤ a then l else addL l a b
def cutS (l : List Sp) (a b : Int) : List Sp := if b ≤ a then l else cutL l a b
theorem add_eq {l : List Sp} (hn : l.length < 1000000) {a b : Int} {k : Nat} (hk : l.length + 1 ≤ k) : span_Add.f k l a b = some (addS l a b) := by
  unfold span_Add.f addS
  by_cases c : b ≤ a
  · rw [if_pos c, if_pos c, clone_eq hn]; rfl
  · rw [if_neg c, if_neg c]
    exact add_loop hn l.length 0 k [] a b (by omega) (by omega) (by simp)
theorem cut_fold (a b : Int) : ∀ (l o : List Sp), l.foldl (fun out x => span_Cut_1.add (span_Cut_1.add out x.f0 (mn x.f1 a)) (mx x.f0 b) x.f1) o = o ++ cutL l a b
  | [], o => by simp [cutL]
  | x :: l, o => by
    rw [List.foldl_cons, cut_fold a b l]
    have e : cutL (x :: l) a b = cut1 x a b ++ cutL l a b := by simp [cutL]
    rw [e, ← List.append_assoc]
    congr 1
    unfold span_Cut_1.add cut1 mn mx
    rw [List.append_assoc]
theorem cut_eq {l : List Sp} (hn : l.length < 1000000) {a b : Int} : span_Cut.f l a b = some (cutS l a b) := by
  unfold span_Cut.f cutS
  by_cases c : b ≤ a
  · rw [if_pos c, if_pos c, clone_eq hn]
  · rw [if_neg c, if_neg c, if_pos (by omega)]
    unfold span_Cut.fold
    rw [cut_fold, List.nil_append]
theorem addS_ok {l : List Sp} {a b : Int} (h : Ok l) : Ok (addS l a b) ∧ ∀ n, Mem n (addS l a b) ↔ Mem n l ∨ (a ≤ n ∧ n < b) := by
  unfold addS
  by_cases c : b ≤ a
  · rw [if_pos c]
    refine ⟨h, fun n => ⟨.inl, fun q => ?_⟩⟩
    rcases q with q | q
    · exact q
    · omega
  · rw [if_neg c]; exact addL_ok h (by omega)
theorem cutS_ok {l : List Sp} {a b : Int} (h : Ok l) : Ok (cutS l a b) ∧ ∀ n, Mem n (cutS l a b) ↔ Mem n l ∧ ¬ (a ≤ n ∧ n < b) := by
  unfold cutS
  by_cases c : b ≤ a
  · rw [if_pos c]
    exact ⟨h, fun n => ⟨fun q => ⟨q, by omega⟩, fun q => q.1⟩⟩
  · rw [if_neg c]; exact cutL_ok h (by omega)
theorem addL_len : ∀ (l : List Sp) (a b : Int), (addL l a b).length ≤ l.length + 1
  | [], a, b => by simp [addL]
  | x :: t, a, b => by
    rw [addL]
    have h1 := addL_len t a b
    have h2 := addL_len t (if x.f0 < a then x.f0 else a) (if b < x.f1 then x.f1 else b)
    split
    · simp only [List.length_cons]; omega
    · split
      · simp
      · simp only [List.length_cons]; omega
theorem addS_len (l : List Sp) (a b : Int) : (addS l a b).length ≤ l.length + 1 := by
  unfold addS
  split
  · omega
  · exact addL_len l a b
theorem cut1_len (x : Sp) (a b : Int) : (cut1 x a b).length ≤ 2 := by
  have h : ∀ (c : Prop) [Decidable c] (y : Sp), (if c then [y] else []).length ≤ 1 := by intro c _ y; split <;> simp
  unfold cut1
  rw [List.length_append]
  have h1 := h (x.f0 < (if a < x.f1 then a else x.f1)) ⟨x.f0, if a < x.f1 then a else x.f1⟩
  have h2 := h ((if x.f0 < b then b else x.f0) < x.f1) ⟨if x.f0 < b then b else x.f0, x.f1⟩
  omega
theorem cutL_len : ∀ (l : List Sp) (a b : Int), (cutL l a b).length ≤ 2 * l.length
  | [], a, b => by simp [cutL]
  | x :: t, a, b => by
    have e : cutL (x :: t) a b = cut1 x a b ++ cutL t a b := by simp [cutL]
    have h1 := cut1_len x a b
    have h2 := cutL_len t a b
    rw [e, List.length_append, List.length_cons]
    omega
theorem cutS_len (l : List Sp) (a b : Int) : (cutS l a b).length ≤ 2 * l.length := by
  unfold cutS
  split
  · omega
  · exact cutL_len l a b
instance : DecidableEq Sp := fun a b => if h : a.f0 = b.f0 ∧ a.f1 = b.f1 then isTrue (by cases a; cases b; obtain ⟨h1, h2⟩ := h; simp only at h1 h2; rw [h1, h2]) else isFalse (fun e => h (by rw [e]; exact ⟨rfl, rfl⟩))
theorem sp_eq {a b : Sp} : a = b ↔ a.f0 = b.f0 ∧ a.f1 = b.f1 := by
  constructor
  · intro e; rw [e]; exact ⟨rfl, rfl⟩
  · intro ⟨h1, h2⟩; cases a; cases b; simp only at h1 h2; rw [h1, h2]
theorem same_loop {a b : List Sp} (hn : a.length < 1000000) (he : a.length = b.length) (d : Nat) : ∀ (j k : Nat), j + d = a.length → d + 1 ≤ k → wigwagref07_Same.l0 k a b (j : Int) = some (decide (a.drop j = b.drop j)) := by
  induction d with
  | zero =>
    intro j k hj hk
    obtain ⟨k, rfl⟩ : ∃ m, k = m + 1 := ⟨k - 1, by omega⟩
    rw [wigwagref07_Same.l0, if_neg (by omega), List.drop_eq_nil_of_le (by omega), List.drop_eq_nil_of_le (by omega)]
    rfl
  | succ d ih =>
    intro j k hj hk
    obtain ⟨k, rfl⟩ : ∃ m, k = m + 1 := ⟨k - 1, by omega⟩
    have ha : j < a.length := by omega
    have hb : j < b.length := by omega
    rw [wigwagref07_Same.l0, if_pos (by omega), if_pos (by omega), if_pos (by omega), sp_rd ha, sp_rd hb, sp_up ha hn, List.drop_eq_getElem_cons ha, List.drop_eq_getElem_cons hb]
    by_cases c : a[j] = b[j]
    · rw [if_neg (by rw [c]; simp), ih (j + 1) k (by omega) (by omega), c]
      congr 1
      apply decide_eq_decide.mpr
      constructor
      · intro h; rw [h]
      · intro h; exact (List.cons.inj h).2
    · rw [if_pos (by
        rcases Classical.em (a[j].f0 = b[j].f0) with h0 | h0
        · have h1 : ¬ a[j].f1 = b[j].f1 := fun h1 => c (sp_eq.mpr ⟨h0, h1⟩)
          simp [h1]
        · simp [h0])]
      congr 1
      symm
      apply decide_eq_false
      intro h
      exact c (List.cons.inj h).1
theorem same_eq {a b : List Sp} (hn : a.length < 1000000) {k : Nat} (hk : a.length + 1 ≤ k) : wigwagref07_Same.f k a b = some (decide (a = b)) := by
  unfold wigwagref07_Same.f
  by_cases c : a.length = b.length
  · rw [if_pos (by omega)]
    exact same_loop hn c a.length 0 k (by omega) (by omega)
  · rw [if_neg (by omega)]
    congr 1
    symm
    apply decide_eq_false
    intro h
    exact c (by rw [h])
instance (n : Int) (l : List Sp) : Decidable (Mem n l) := inferInstanceAs (Decidable (∃ s ∈ l, s.f0 ≤ n ∧ n < s.f1))
theorem rhas_loop {l : List Sp} (hn : l.length < 1000000) (n : Int) (d : Nat) : ∀ (j k : Nat), j + d = l.length → d + 1 ≤ k → wigwagref07_Has.l0 k l n (j : Int) = some (decide (Mem n (l.drop j))) := by
  induction d with
  | zero =>
    intro j k hj hk
    obtain ⟨k, rfl⟩ : ∃ m, k = m + 1 := ⟨k - 1, by omega⟩
    rw [wigwagref07_Has.l0, if_neg (by omega), List.drop_eq_nil_of_le (by omega), decide_eq_false mem_nil]
  | succ d ih =>
    intro j k hj hk
    obtain ⟨k, rfl⟩ : ∃ m, k = m + 1 := ⟨k - 1, by omega⟩
    have hjl : j < l.length := by omega
    rw [wigwagref07_Has.l0, if_pos (by omega), if_pos (by omega), sp_rd hjl, List.drop_eq_getElem_cons hjl, sp_up hjl hn, ih (j + 1) k (by omega) (by omega)]
    by_cases h1 : (l[j]).f0 ≤ n
    · rw [if_pos h1]
      by_cases h2 : n < (l[j]).f1
      · rw [if_pos h2, decide_eq_true (mem_cons.mpr (.inl ⟨h1, h2⟩))]
      · rw [if_neg h2]
        congr 1
        apply decide_eq_decide.mpr
        rw [mem_cons]
        constructor
        · exact .inr
        · intro q; rcases q with q | q; omega; exact q
    · rw [if_neg h1]
      congr 1
      apply decide_eq_decide.mpr
      rw [mem_cons]
      constructor
      · exact .inr
      · intro q; rcases q with q | q; omega; exact q
theorem rhas_eq {l : List Sp} (hn : l.length < 1000000) (n : Int) {k : Nat} (hk : l.length + 1 ≤ k) : wigwagref07_Has.f k l n = some (decide (Mem n l)) := by
  unfold wigwagref07_Has.f
  exact rhas_loop hn n l.length 0 k (by omega) (by omega)
theorem joined_eq {l : List Sp} (hn : l.length < 1000000) (a b : Int) {k : Nat} (hk : 1 ≤ k) : wigwagref07_joined.f k l a b = some (joinL l ⟨a, b⟩) := by
  obtain ⟨k, rfl⟩ : ∃ m, k = m + 1 := ⟨k - 1, by omega⟩
  unfold wigwagref07_joined.f
  by_cases c : b ≤ a
  · rw [if_pos c]
    unfold joinL
    rw [if_pos c]
  · rw [if_neg c]
    rcases List.eq_nil_or_concat l with rfl | ⟨t, z, rfl⟩
    · rw [if_pos (by simp), wigwagref07_joined.j0, if_pos rfl]
      unfold joinL
      rw [if_neg c]
      simp
    · rw [List.concat_eq_append] at hn ⊢
      have e1 : wrap64 (((t ++ [z]).length : Int) - 1) = (t.length : Int) := by simp at hn ⊢; unfold wrap64; omega
      have e2 : rd_T25 (t ++ [z]) (t.length : Int) = z := by rw [sp_rd (by simp)]; simp
      rw [if_neg (by simp; omega), e1, if_pos (by omega), if_pos (by simp; omega), e2, wigwagref07_joined.j0, joinL_snoc, if_neg c]
      by_cases c1 : z.f1 < a
      · rw [decide_eq_true c1, if_pos rfl, if_pos c1, Option.bind_some, if_pos (by simp at hn ⊢; omega), Option.bind_some, Option.bind_some, if_pos (by simp at hn ⊢; omega), List.nil_append]
      · rw [decide_eq_false c1, if_neg (by simp), if_neg c1, Option.bind_some, if_pos (by simp at hn ⊢; omega), Option.bind_some, List.nil_append, e1, if_pos (by omega), if_pos (by simp; omega), e2]
        by_cases c2 : z.f1 < b
        · rw [if_pos c2, if_pos c2, Int.toNat_natCast]
          congr 1
          simp
        · rw [if_neg c2, if_neg c2]
theorem joined_sp {l : List Sp} (hn : l.length < 1000000) (s : Sp) {k : Nat} (hk : 1 ≤ k) : wigwagref07_joined.f k l s.f0 s.f1 = some (joinL l s) := joined_eq hn s.f0 s.f1 hk
theorem joinL_len (l : List Sp) (s : Sp) : (joinL l s).length ≤ l.length + 1 := by
  rcases List.eq_nil_or_concat l with rfl | ⟨t, z, rfl⟩
  · unfold joinL
    split
    · simp
    · simp
  · rw [List.concat_eq_append, joinL_snoc]
    split
    · simp
    · split
      · simp
      · split <;> simp
theorem radd_loop {l : List Sp} (hn : l.length < 100000) (a b : Int) (d : Nat) : ∀ (j k : Nat) (out : List Sp) (done : Bool), j + d = l.length → 2 * d + 2 ≤ k → out.length + 2 * d < 900000 → wigwagref07_Add.l0 k l out done (j : Int) a b = some ((if done then l.drop j else insL (l.drop j) ⟨a, b⟩).foldl joinL out) := by
  induction d with
  | zero =>
    intro j k out done hj hk ho
    obtain ⟨k, rfl⟩ : ∃ m, k = m + 1 := ⟨k - 1, by omega⟩
    rw [wigwagref07_Add.l0, if_neg (by omega), List.drop_eq_nil_of_le (by omega)]
    cases done with
    | true => rfl
    | false => rw [if_neg (by simp), if_neg (by simp), joined_eq (by omega) a b (by omega)]; rfl
  | succ d ih =>
    intro j k out done hj hk ho
    obtain ⟨k, rfl⟩ : ∃ m, k = m + 2 := ⟨k - 2, by omega⟩
    have hjl : j < l.length := by omega
    have n1 : (joinL out ⟨a, b⟩).length ≤ out.length + 1 := joinL_len _ _
    have n2 : (joinL out (l[j])).length ≤ out.length + 1 := joinL_len _ _
    have n3 : (joinL (joinL out ⟨a, b⟩) (l[j])).length ≤ out.length + 2 := by have := joinL_len (joinL out ⟨a, b⟩) (l[j]); omega
    have J1 : ∀ (o : List Sp), o.length < 1000000 → wigwagref07_joined.f k o (l[j]).f0 (l[j]).f1 = some (joinL o (l[j])) := fun o h => joined_eq h _ _ (by omega)
    rw [wigwagref07_Add.l0, if_pos (by omega)]
    cases done with
    | true =>
      rw [if_pos rfl, wigwagref07_Add.j1, if_neg (by simp), if_pos (by omega), if_pos (by omega), sp_rd hjl, J1 _ (by omega), Option.bind_some, sp_up hjl (by omega), ih (j + 1) k _ true (by omega) (by omega) (by omega), List.drop_eq_getElem_cons hjl]
      rfl
    | false =>
      rw [if_neg (by simp), if_pos (by omega), sp_rd hjl, wigwagref07_Add.j1, List.drop_eq_getElem_cons hjl, insL]
      by_cases c : a ≤ (l[j]).f0
      · rw [decide_eq_true c, if_pos rfl, joined_eq (by omega) a b (by omega), Option.bind_some, if_pos (by omega), if_pos (by omega), sp_rd hjl, J1 _ (by omega), Option.bind_some, sp_up hjl (by omega), ih (j + 1) k _ true (by omega) (by omega) (by omega), if_pos c]
        rfl
      · rw [decide_eq_false c, if_neg (by simp), if_pos (by omega), if_pos (by omega), sp_rd hjl, J1 _ (by omega), Option.bind_some, sp_up hjl (by omega), ih (j + 1) k _ false (by omega) (by omega) (by omega), if_neg c]
        rfl
theorem rfadd_eq {l : List Sp} (hn : l.length < 100000) (hl : Ok l) (a b : Int) {k : Nat} (hk : 2 * l.length + 2 ≤ k) : wigwagref07_Add.f k l a b = some (addS l a b) := by
  unfold wigwagref07_Add.f addS
  rw [show (0 : Int) = ((0 : Nat) : Int) from rfl, radd_loop hn a b l.length 0 k [] false (by omega) hk (by simp; omega), List.drop_zero]
  show some ((insL l ⟨a, b⟩).foldl joinL []) = _
  by_cases c : b ≤ a
  · rw [if_pos c, radd_none hl c]
  · rw [if_neg c, radd_eq hl (by omega)]
instance (l : List Sp) : Decidable (Ok l) := inferInstanceAs (Decidable (_ ∧ _))
/-- What ok says of a list's end, by neighbours. -/
theorem ok_next {l : List Sp} {j : Nat} (h0 : j + 1 < l.length) : Ok (l.drop j) ↔ (l[j]).f0 < (l[j]).f1 ∧ (l[j]).f1 < (l[j + 1]).f0 ∧ Ok (l.drop (j + 1)) := by
  rw [List.drop_eq_getElem_cons (show j < l.length by omega), ok_cons]
  constructor
  · intro ⟨h1, h2, h3⟩
    refine ⟨h1, h2 _ ?_, h3⟩
    rw [List.drop_eq_getElem_cons h0]
    exact List.mem_cons_self ..
  · intro ⟨h1, h2, h3⟩
    refine ⟨h1, fun u hu => ?_, h3⟩
    rw [List.drop_eq_getElem_cons h0] at hu h3
    obtain ⟨k1, k2, _⟩ := ok_cons.mp h3
    rcases List.mem_cons.mp hu with q | q
    · rw [q]; exact h2
    · have := k2 u q; omega
/-- The end from j on, and what lies just ahead of it. -/
def OkFrom (l : List Sp) (j : Nat) : Prop := Ok (l.drop j) ∧ (∀ h : 0 < j ∧ j < l.length, (l[j - 1]).f1 < (l[j]).f0)
theorem okfrom_zero {l : List Sp} : OkFrom l 0 ↔ Ok l := by
  unfold OkFrom
  rw [List.drop_zero]
  exact ⟨fun h => h.1, fun h => ⟨h, fun h => absurd h.1 (by omega)⟩⟩
theorem okfrom_end {l : List Sp} {j : Nat} (h : l.length ≤ j) : OkFrom l j := by
  unfold OkFrom
  rw [List.drop_eq_nil_of_le h]
  exact ⟨ok_nil, fun h => absurd h.2 (by omega)⟩
theorem okfrom_succ {l : List Sp} {j : Nat} (h : j < l.length) : OkFrom l j ↔ (l[j]).f0 < (l[j]).f1 ∧ (∀ h0 : 0 < j, (l[j - 1]).f1 < (l[j]).f0) ∧ OkFrom l (j + 1) := by
  unfold OkFrom
  by_cases c : j + 1 < l.length
  · rw [ok_next c]
    constructor
    · intro ⟨⟨h1, h2, h3⟩, h4⟩
      exact ⟨h1, fun h0 => h4 ⟨h0, h⟩, h3, fun _ => h2⟩
    · intro ⟨h1, h2, h3, h4⟩
      exact ⟨⟨h1, h4 ⟨by omega, c⟩, h3⟩, fun h0 => h2 h0.1⟩
  · have e : l.drop (j + 1) = [] := List.drop_eq_nil_of_le (by omega)
    rw [List.drop_eq_getElem_cons h, e]
    constructor
    · intro ⟨h1, h2⟩
      exact ⟨(ok_cons.mp h1).1, fun h0 => h2 ⟨h0, h⟩, ok_nil, fun h0 => absurd h0.2 c⟩
    · intro ⟨h1, h2, _, _⟩
      exact ⟨ok_one h1, fun h0 => h2 h0.1⟩
noncomputable instance (l : List Sp) (j : Nat) : Decidable (OkFrom l j) := Classical.propDecidable _
theorem check_loop {l : List Sp} (hn : l.length < 1000000) (d : Nat) : ∀ (j k : Nat), j + d = l.length → d + 1 ≤ k → span_Check.l0 k l l (l.length : Int) (j : Int) = some (decide (OkFrom l j)) := by
  induction d with
  | zero =>
    intro j k hj hk
    obtain ⟨k, rfl⟩ : ∃ m, k = m + 1 := ⟨k - 1, by omega⟩
    rw [span_Check.l0, if_neg (by omega), decide_eq_true (okfrom_end (by omega))]
  | succ d ih =>
    intro j k hj hk
    obtain ⟨k, rfl⟩ : ∃ m, k = m + 1 := ⟨k - 1, by omega⟩
    have hjl : j < l.length := by omega
    have e := okfrom_succ hjl
    rw [span_Check.l0, if_pos (by omega), if_pos (by omega), if_pos (by omega), sp_rd hjl, sp_up hjl hn, ih (j + 1) k (by omega) (by omega)]
    by_cases c1 : (l[j]).f0 ≥ (l[j]).f1
    · rw [if_pos c1]
      congr 1; symm; apply decide_eq_false
      intro h; have := (e.mp h).1; omega
    · rw [if_neg c1]
      by_cases c2 : 0 < j
      · obtain ⟨i, rfl⟩ : ∃ i, j = i + 1 := ⟨j - 1, by omega⟩
        rw [if_pos (by omega), sp_dn (show i < l.length by omega) hn, if_pos (by omega), if_pos (by omega), sp_rd (show i < l.length by omega)]
        by_cases c3 : (l[i + 1]).f0 ≤ (l[i]).f1
        · rw [if_pos c3]
          congr 1; symm; apply decide_eq_false
          intro h; have := (e.mp h).2.1 c2; simp only [Nat.add_sub_cancel] at this; omega
        · rw [if_neg c3]
          congr 1; apply decide_eq_decide.mpr
          rw [e]
          exact ⟨fun h => ⟨by omega, fun _ => by simp only [Nat.add_sub_cancel]; omega, h⟩, fun h => h.2.2⟩
      · rw [if_neg (by omega)]
        congr 1; apply decide_eq_decide.mpr
        rw [e]
        exact ⟨fun h => ⟨by omega, fun h0 => absurd h0 c2, h⟩, fun h => h.2.2⟩
theorem check_eq {l : List Sp} (hn : l.length < 1000000) {k : Nat} (hk : l.length + 1 ≤ k) : span_Check.f k l = some (decide (Ok l)) := by
  unfold span_Check.f
  have h := check_loop hn l.length 0 k (by omega) hk
  rw [show ((0 : Nat) : Int) = 0 from rfl] at h
  rw [h]
  congr 1; exact decide_eq_decide.mpr okfrom_zero
theorem rcheck_loop {l : List Sp} (hn : l.length < 1000000) (d : Nat) : ∀ (j k : Nat), j + d = l.length → d + 1 ≤ k → wigwagref07_Check.l0 k l (j : Int) = some (decide (OkFrom l j)) := by
  induction d with
  | zero =>
    intro j k hj hk
    obtain ⟨k, rfl⟩ : ∃ m, k = m + 1 := ⟨k - 1, by omega⟩
    rw [wigwagref07_Check.l0, if_neg (by omega), decide_eq_true (okfrom_end (by omega))]
  | succ d ih =>
    intro j k hj hk
    obtain ⟨k, rfl⟩ : ∃ m, k = m + 1 := ⟨k - 1, by omega⟩
    have hjl : j < l.length := by omega
    have e := okfrom_succ hjl
    rw [wigwagref07_Check.l0, if_pos (by omega), if_pos (by omega), sp_rd hjl, sp_up hjl hn, ih (j + 1) k (by omega) (by omega)]
    by_cases c1 : (l[j]).f0 ≥ (l[j]).f1
    · rw [if_pos c1]
      congr 1; symm; apply decide_eq_false
      intro h; have := (e.mp h).1; omega
    · rw [if_neg c1]
      by_cases c2 : 0 < j
      · obtain ⟨i, rfl⟩ : ∃ i, j = i + 1 := ⟨j - 1, by omega⟩
        rw [if_pos (by omega), sp_dn (show i < l.length by omega) hn, if_pos (by omega), if_pos (by omega), sp_rd (show i < l.length by omega)]
        by_cases c3 : (l[i + 1]).f0 ≤ (l[i]).f1
        · rw [if_pos c3]
          congr 1; symm; apply decide_eq_false
          intro h; have := (e.mp h).2.1 c2; simp only [Nat.add_sub_cancel] at this; omega
        · rw [if_neg c3]
          congr 1; apply decide_eq_decide.mpr
          rw [e]
          exact ⟨fun h => ⟨by omega, fun _ => by simp only [Nat.add_sub_cancel]; omega, h⟩, fun h => h.2.2⟩
      · rw [if_neg (by omega)]
        congr 1; apply decide_eq_decide.mpr
        rw [e]
        exact ⟨fun h => ⟨by omega, fun h0 => absurd h0 c2, h⟩, fun h => h.2.2⟩
theorem rcheck_eq {l : List Sp} (hn : l.length < 1000000) {k : Nat} (hk : l.length + 1 ≤ k) : wigwagref07_Check.f k l = some (decide (Ok l)) := by
  unfold wigwagref07_Check.f
  have h := rcheck_loop hn l.length 0 k (by omega) hk
  rw [show ((0 : Nat) : Int) = 0 from rfl] at h
  rw [h]
  congr 1; exact decide_eq_decide.mpr okfrom_zero
theorem index_eq {l : List Sp} (hn : l.length < 1000000) (n : Int) (d : Nat) : ∀ (j k : Nat), j + d = l.length → d + 1 ≤ k → ∃ r, slices_IndexFunc_28.l0 k l (l.length : Int) (j : Int) n = some r ∧ decide (r ≥ 0) = decide (Mem n (l.drop j)) := by
  induction d with
  | zero =>
    intro j k hj hk
    obtain ⟨k, rfl⟩ : ∃ m, k = m + 1 := ⟨k - 1, by omega⟩
    rw [slices_IndexFunc_28.l0, if_neg (by omega), List.drop_eq_nil_of_le (by omega)]
    exact ⟨_, rfl, by rw [decide_eq_false mem_nil]; rfl⟩
  | succ d ih =>
    intro j k hj hk
    obtain ⟨k, rfl⟩ : ∃ m, k = m + 1 := ⟨k - 1, by omega⟩
    have hjl : j < l.length := by omega
    have e : span_Has_1.f (l[j]).f0 (l[j]).f1 n = some (decide ((l[j]).f0 ≤ n ∧ n < (l[j]).f1)) := by
      unfold span_Has_1.f
      by_cases h : (l[j]).f0 ≤ n
      · rw [if_pos h]; congr 1; apply decide_eq_decide.mpr; exact ⟨fun q => ⟨h, q⟩, fun q => q.2⟩
      · rw [if_neg h]; congr 1; symm; apply decide_eq_false; exact fun q => h q.1
    rw [slices_IndexFunc_28.l0, if_pos (by omega), if_pos (by omega), if_pos (by omega), sp_rd hjl, e, List.drop_eq_getElem_cons hjl, sp_up hjl hn, Option.bind_some]
    by_cases hq : (l[j]).f0 ≤ n ∧ n < (l[j]).f1
    · rw [decide_eq_true hq, if_pos rfl]
      exact ⟨_, rfl, by rw [decide_eq_true (mem_cons.mpr (.inl hq))]; simp⟩
    · rw [decide_eq_false hq, if_neg (by simp)]
      obtain ⟨r, h1, h2⟩ := ih (j + 1) k (by omega) (by omega)
      refine ⟨r, h1, ?_⟩
      rw [h2]
      apply decide_eq_decide.mpr
      rw [mem_cons]
      exact ⟨.inr, fun q => q.resolve_left hq⟩
theorem has_eq {l : List Sp} (hn : l.length < 1000000) (n : Int) {k : Nat} (hk : l.length + 1 ≤ k) : span_Has.f k l n = some (decide (Mem n l)) := by
  unfold span_Has.f slices_ContainsFunc_28.f slices_IndexFunc_28.f
  obtain ⟨r, h1, h2⟩ := index_eq hn n l.length 0 k (by omega) (by omega)
  rw [show ((0 : Nat) : Int) = 0 from rfl] at h1
  rw [h1, Option.bind_some, Option.bind_some, h2, List.drop_zero]
/-- How many numbers they have. -/
def total (l : List Sp) : Int := (l.map (fun s => s.f1 - s.f0)).sum
theorem total_cons (s : Sp) (l : List Sp) : total (s :: l) = s.f1 - s.f0 + total l := by unfold total; simp
theorem size_loop {l : List Sp} (hn : l.length < 1000000) (d : Nat) : ∀ (j k : Nat) (a : Int), j + d = l.length → d + 1 ≤ k → 0 ≤ a → a < 18446744073709551616 → span_Size.l0 k a l (l.length : Int) (j : Int) = some ((a + total (l.drop j)) % 18446744073709551616) := by
  induction d with
  | zero =>
    intro j k a hj hk h0 h1
    obtain ⟨k, rfl⟩ : ∃ m, k = m + 1 := ⟨k - 1, by omega⟩
    rw [span_Size.l0, if_neg (by omega), List.drop_eq_nil_of_le (by omega)]
    unfold total
    simp
    omega
  | succ d ih =>
    intro j k a hj hk h0 h1
    obtain ⟨k, rfl⟩ : ∃ m, k = m + 1 := ⟨k - 1, by omega⟩
    have hjl : j < l.length := by omega
    rw [span_Size.l0, if_pos (by omega), if_pos (by omega), if_pos (by omega), sp_rd hjl, sp_up hjl hn, wrapu, wrapu, ih (j + 1) k _ (by omega) (by omega) (by omega) (by omega), List.drop_eq_getElem_cons hjl, total_cons]
    congr 1
    omega
theorem size_eq {l : List Sp} (hn : l.length < 1000000) {k : Nat} (hk : l.length + 1 ≤ k) : span_Size.f k l = some (total l % 18446744073709551616) := by
  unfold span_Size.f
  have h := size_loop hn l.length 0 k 0 (by omega) hk (by omega) (by omega)
  rw [show ((0 : Nat) : Int) = 0 from rfl] at h
  rw [h, List.drop_zero, Int.zero_add]
theorem rsize_loop {l : List Sp} (hn : l.length < 1000000) (d : Nat) : ∀ (j k : Nat) (a : Int), j + d = l.length → d + 1 ≤ k → 0 ≤ a → a < 18446744073709551616 → wigwagref07_Size.l0 k l a (j : Int) = some ((a + total (l.drop j)) % 18446744073709551616) := by
  induction d with
  | zero =>
    intro j k a hj hk h0 h1
    obtain ⟨k, rfl⟩ : ∃ m, k = m + 1 := ⟨k - 1, by omega⟩
    rw [wigwagref07_Size.l0, if_neg (by omega), List.drop_eq_nil_of_le (by omega)]
    unfold total
    simp
    omega
  | succ d ih =>
    intro j k a hj hk h0 h1
    obtain ⟨k, rfl⟩ : ∃ m, k = m + 1 := ⟨k - 1, by omega⟩
    have hjl : j < l.length := by omega
    rw [wigwagref07_Size.l0, if_pos (by omega), if_pos (by omega), sp_rd hjl, sp_up hjl hn, wrapu, wrapu, ih (j + 1) k _ (by omega) (by omega) (by omega) (by omega), List.drop_eq_getElem_cons hjl, total_cons]
    congr 1
    omega
theorem rsize_eq {l : List Sp} (hn : l.length < 1000000) {k : Nat} (hk : l.length + 1 ≤ k) : wigwagref07_Size.f k l = some (total l % 18446744073709551616) := by
  unfold wigwagref07_Size.f
  have h := rsize_loop hn l.length 0 k 0 (by omega) hk (by omega) (by omega)
  rw [show ((0 : Nat) : Int) = 0 from rfl] at h
  rw [h, List.drop_zero, Int.zero_add]
theorem rd_head (x : Sp) (t : List Sp) : rd_T25 (x :: t) 0 = x := rfl
theorem both_loop : ∀ (n : Nat) (a b out : List Sp) (k : Nat), a.length + b.length ≤ n → 2 * n + 2 ≤ k → out.length + n < 1000000 → span_Both.l0 k a b out = some (out ++ bothL a b n) := by
  intro n
  induction n with
  | zero =>
    intro a b out k h hk ho
    obtain ⟨k, rfl⟩ : ∃ m, k = m + 2 := ⟨k - 2, by omega⟩
    obtain rfl : a = [] := List.eq_nil_of_length_eq_zero (by omega)
    rw [span_Both.l0, if_neg (by simp), span_Both.j1, if_neg (by simp)]
    simp [bothL]
  | succ n ih =>
    intro a b out k h hk ho
    obtain ⟨k, rfl⟩ : ∃ m, k = m + 2 := ⟨k - 2, by omega⟩
    cases a with
    | nil =>
      rw [span_Both.l0, if_neg (by simp), span_Both.j1, if_neg (by simp)]
      simp [bothL]
    | cons x s =>
      rw [span_Both.l0, if_pos (by simp only [List.length_cons]; omega)]
      cases b with
      | nil =>
        rw [span_Both.j1, if_neg (by simp)]
        simp [bothL]
      | cons y t =>
        simp only [List.length_cons] at h
        have i1 := fun (o : List Sp) (ho : o.length + n < 1000000) => ih s (y :: t) o k (by simp only [List.length_cons]; omega) (by omega) ho
        have i2 := fun (o : List Sp) (ho : o.length + n < 1000000) => ih (x :: s) t o k (by simp only [List.length_cons]; omega) (by omega) ho
        rw [span_Both.j1, if_pos (decide_eq_true (by simp only [List.length_cons]; omega)), if_pos (by simp only [List.length_cons, List.length_nil, List.length_append]; omega), if_pos (by simp only [List.length_cons, List.length_nil, List.length_append]; omega), rd_head, rd_head, bothL]
        have em : mx x.f0 y.f0 = (if x.f0 < y.f0 then y.f0 else x.f0) := rfl
        have en : mn x.f1 y.f1 = (if y.f1 < x.f1 then y.f1 else x.f1) := rfl
        rw [em, en]
        generalize (if x.f0 < y.f0 then y.f0 else x.f0) = p
        generalize (if y.f1 < x.f1 then y.f1 else x.f1) = q
        by_cases c1 : p < q
        · rw [if_pos c1, if_pos c1, if_pos (by omega), Option.bind_some]
          by_cases c2 : x.f1 < y.f1
          · rw [if_pos c2, if_pos c2, if_pos (by simp only [List.length_cons, List.length_nil, List.length_append]; omega), ← List.append_assoc]
            exact i1 _ (by simp only [List.length_cons, List.length_nil, List.length_append]; omega)
          · rw [if_neg c2, if_neg c2, if_pos (by simp only [List.length_cons, List.length_nil, List.length_append]; omega), ← List.append_assoc]
            exact i2 _ (by simp only [List.length_cons, List.length_nil, List.length_append]; omega)
        · rw [if_neg c1, if_neg c1, List.nil_append]
          by_cases c2 : x.f1 < y.f1
          · rw [if_pos c2, if_pos c2, if_pos (by simp only [List.length_cons, List.length_nil, List.length_append]; omega)]
            exact i1 _ (by omega)
          · rw [if_neg c2, if_neg c2, if_pos (by simp only [List.length_cons, List.length_nil, List.length_append]; omega)]
            exact i2 _ (by omega)
theorem both_eq {a b : List Sp} (hn : a.length + b.length < 100000) {k : Nat} (hk : 2 * (a.length + b.length) + 2 ≤ k) : span_Both.f k a b = some (bothL a b (a.length + b.length)) := by
  unfold span_Both.f
  rw [both_loop (a.length + b.length) a b [] k (Nat.le_refl _) hk (by simp; omega), List.nil_append]
theorem one_len (c : Prop) [Decidable c] (y : Sp) : (if c then [y] else []).length ≤ 1 := by split <;> simp
theorem bothL_len : ∀ (n : Nat) (a b : List Sp), (bothL a b n).length ≤ n
  | 0, a, b => by unfold bothL; simp
  | n + 1, [], b => by simp [bothL]
  | n + 1, x :: s, [] => by simp [bothL]
  | n + 1, x :: s, y :: t => by
    rw [bothL, List.length_append]
    have h1 := bothL_len n s (y :: t)
    have h2 := bothL_len n (x :: s) t
    have h3 := one_len ((if x.f0 < y.f0 then y.f0 else x.f0) < (if y.f1 < x.f1 then y.f1 else x.f1)) (⟨if x.f0 < y.f0 then y.f0 else x.f0, if y.f1 < x.f1 then y.f1 else x.f1⟩ : Sp)
    by_cases c : x.f1 < y.f1
    · rw [if_pos c]; omega
    · rw [if_neg c]; omega
theorem meet_eq (a b : Sp) : wigwagref07_meet.f a.f0 a.f1 b.f0 b.f1 = some ((meetL a b).f0, (meetL a b).f1) := by
  unfold wigwagref07_meet.f meetL
  by_cases c1 : a.f0 < b.f0 <;> by_cases c2 : b.f1 < a.f1 <;> simp [c1, c2]
theorem rcut_loop {l : List Sp} (hn : l.length < 100000) (a b : Int) (d : Nat) : ∀ (j k : Nat) (out : List Sp), j + d = l.length → d + 2 ≤ k → out.length + 2 * d < 900000 → wigwagref07_Cut.l0 k l out (j : Int) a b = some (((l.drop j).flatMap (fun x => [meetL x ⟨0, a⟩, meetL x ⟨b, 18446744073709551615⟩])).foldl joinL out) := by
  induction d with
  | zero =>
    intro j k out hj hk ho
    obtain ⟨k, rfl⟩ : ∃ m, k = m + 1 := ⟨k - 1, by omega⟩
    rw [wigwagref07_Cut.l0, if_neg (by omega), List.drop_eq_nil_of_le (by omega)]
    rfl
  | succ d ih =>
    intro j k out hj hk ho
    obtain ⟨k, rfl⟩ : ∃ m, k = m + 1 := ⟨k - 1, by omega⟩
    have hjl : j < l.length := by omega
    have n1 := joinL_len out (meetL (l[j]) ⟨0, a⟩)
    have n2 := joinL_len (joinL out (meetL (l[j]) ⟨0, a⟩)) (meetL (l[j]) ⟨b, 18446744073709551615⟩)
    have m1 := meet_eq (l[j]) ⟨0, a⟩
    have m2 := meet_eq (l[j]) ⟨b, 18446744073709551615⟩
    simp only at m1 m2
    rw [wigwagref07_Cut.l0, if_pos (by omega), if_pos (by omega), sp_rd hjl, m1, Option.bind_some]
    dsimp only
    rw [joined_sp (by omega) _ (by omega), Option.bind_some, m2, Option.bind_some]
    dsimp only
    rw [joined_sp (by omega) _ (by omega), Option.bind_some, sp_up hjl (by omega), ih (j + 1) k _ (by omega) (by omega) (by omega), List.drop_eq_getElem_cons hjl]
    rfl
theorem rfcut_eq {l : List Sp} (hn : l.length < 100000) (hl : Ok l) (h0 : ∀ s ∈ l, 0 ≤ s.f0) (hN : ∀ s ∈ l, s.f1 ≤ 18446744073709551615) (a b : Int) {k : Nat} (hk : l.length + 2 ≤ k) : wigwagref07_Cut.f k l a b = some (cutS l a b) := by
  unfold wigwagref07_Cut.f cutS
  by_cases c : b ≤ a
  · rw [if_pos c, if_pos c, Option.bind_some, if_pos (by simp; omega), List.nil_append]
  · rw [if_neg c, if_neg c]
    have h := rcut_loop hn a b l.length 0 k [] (by omega) hk (by simp; omega)
    rw [show ((0 : Nat) : Int) = 0 from rfl, List.drop_zero] at h
    rw [h, rcut_eq hl (by omega) h0 hN]
theorem rboth_in {a b : List Sp} (ha : a.length < 1000) (hb : b.length < 1000) {i : Nat} (hi : i < a.length) (d : Nat) : ∀ (j k : Nat) (out : List Sp) (r : List Sp), j + d = b.length → d + 1 ≤ k → out.length + d < 900000 → wigwagref07_Both.l0 (k - (d + 1)) a b (((b.drop j).map (meetL (a[i]))).foldl joinL out) ((i + 1 : Nat) : Int) = some r → wigwagref07_Both.l1 k a b out (i : Int) (j : Int) = some r := by
  induction d with
  | zero =>
    intro j k out r hj hk ho h
    obtain ⟨k, rfl⟩ : ∃ m, k = m + 1 := ⟨k - 1, by omega⟩
    rw [List.drop_eq_nil_of_le (by omega)] at h
    rw [wigwagref07_Both.l1, if_neg (by omega), sp_up hi (by omega)]
    exact h
  | succ d ih =>
    intro j k out r hj hk ho h
    obtain ⟨k, rfl⟩ : ∃ m, k = m + 1 := ⟨k - 1, by omega⟩
    have hjl : j < b.length := by omega
    have n1 := joinL_len out (meetL (a[i]) (b[j]))
    rw [wigwagref07_Both.l1, if_pos (by omega), if_pos (by omega), if_pos (by omega), if_pos (by omega), sp_rd hi, sp_rd hjl, meet_eq, Option.bind_some]
    dsimp only
    rw [joined_sp (by omega) _ (by omega), Option.bind_some, sp_up hjl (by omega)]
    refine ih (j + 1) k _ r (by omega) (by omega) (by omega) ?_
    rw [List.drop_eq_getElem_cons hjl] at h
    rw [show k + 1 - (d + 1 + 1) = k - (d + 1) by omega] at h
    exact h
theorem rboth_loop {a b : List Sp} (ha : a.length < 1000) (hb : b.length < 800) (d : Nat) : ∀ (i k : Nat) (out : List Sp), i + d = a.length → d * (b.length + 3) + 3 ≤ k → out.length + d * b.length < 900000 → wigwagref07_Both.l0 k a b out (i : Int) = some (((a.drop i).flatMap (fun x => b.map (meetL x))).foldl joinL out) := by
  induction d with
  | zero =>
    intro i k out hi hk ho
    obtain ⟨k, rfl⟩ : ∃ m, k = m + 1 := ⟨k - 1, by omega⟩
    rw [wigwagref07_Both.l0, if_neg (by omega), List.drop_eq_nil_of_le (by omega)]
    rfl
  | succ d ih =>
    intro i k out hi hk ho
    have e1 : (d + 1) * (b.length + 3) = d * (b.length + 3) + (b.length + 3) := by rw [Nat.add_mul, Nat.one_mul]
    have e2 : (d + 1) * b.length = d * b.length + b.length := by rw [Nat.add_mul, Nat.one_mul]
    obtain ⟨k, rfl⟩ : ∃ m, k = m + 1 := ⟨k - 1, by omega⟩
    have hil : i < a.length := by omega
    have fl : ∀ (ps o : List Sp), (ps.foldl joinL o).length ≤ o.length + ps.length := by
      intro ps
      induction ps with
      | nil => intro o; simp
      | cons p ps ihp => intro o; have := ihp (joinL o p); have := joinL_len o p; simp only [List.foldl_cons, List.length_cons]; omega
    have n1 := fl (b.map (meetL (a[i]))) out
    rw [List.length_map] at n1
    rw [wigwagref07_Both.l0, if_pos (by omega)]
    have h := rboth_in (a := a) (b := b) ha (by omega) hil b.length 0 k out _ (by omega) (by omega) (by omega) (ih (i + 1) (k - (b.length + 1)) _ (by omega) (by omega) (by rw [List.drop_zero]; omega))
    rw [show ((0 : Nat) : Int) = 0 from rfl] at h
    rw [h, List.drop_zero, List.drop_eq_getElem_cons hil, List.flatMap_cons, List.foldl_append]
theorem rfboth_eq {a b : List Sp} (hna : a.length < 1000) (hnb : b.length < 800) (ha : Ok a) (hb : Ok b) {k : Nat} (hk : a.length * (b.length + 3) + 3 ≤ k) (hs : a.length * b.length < 900000) : wigwagref07_Both.f k a b = some (bothL a b (a.length + b.length)) := by
  unfold wigwagref07_Both.f
  have h := rboth_loop hna hnb a.length 0 k [] (by omega) hk (by simp; omega)
  rw [show ((0 : Nat) : Int) = 0 from rfl, List.drop_zero] at h
  rw [h, rboth_eq ha hb (Nat.le_refl _)]
/-- The last ones. -/
def lastL (l : List Sp) (n : Int) : List Sp := l.drop (l.length - (if n < 0 then 0 else if n > (l.length : Int) then l.length else n.toNat))
theorem last_eq {l : List Sp} (hn : l.length < 1000000) (n : Int) : span_Last.f l n = some (lastL l n) := by
  unfold span_Last.f lastL
  have e : wrap64 ((l.length : Int) - (mn (mx n 0) (l.length : Int))) = ((l.length - (if n < 0 then 0 else if n > (l.length : Int) then l.length else n.toNat) : Nat) : Int) := by
    rw [mx_eq, mn_eq]
    unfold wrap64
    split
    · omega
    · split <;> omega
  rw [e, if_pos (by omega), if_pos (by omega), Int.toNat_natCast, clone_eq (by rw [List.length_drop]; omega), Option.bind_some]
theorem last_bit {l : List Sp} (hn : l.length < 1000000) {x : Int} {m : Nat} (e : x = (m : Int)) (hm : m ≤ l.length) : ((some (([] : List Sp) : List Sp)).bind fun y1 => (if 0 ≤ x then (if x ≤ (l.length : Int) then ((some (l.drop (x : Int).toNat : List Sp)).bind fun y2 => (if y1.length + y2.length < 8796093022208 then (some (y1 ++ y2)) else (none))) else (none)) else (none))) = some (l.drop m) := by
  subst e
  rw [Option.bind_some, if_pos (by omega), if_pos (by omega), Option.bind_some, Int.toNat_natCast, if_pos (by simp; omega), List.nil_append]
theorem rlast_eq {l : List Sp} (hn : l.length < 1000000) (n : Int) : wigwagref07_Last.f l n = some (lastL l n) := by
  unfold wigwagref07_Last.f lastL
  by_cases c : n < 0
  · rw [if_pos c, if_neg (by omega), if_pos c]
    exact last_bit hn (x := wrap64 (l.length : Int)) (m := l.length - 0) (by unfold wrap64; omega) (by omega)
  · rw [if_neg c, if_neg c]
    by_cases c2 : n > (l.length : Int)
    · rw [if_pos c2, if_pos c2, Option.bind_some, if_pos (by omega), Option.bind_some, if_pos (by simp; omega), List.nil_append, Nat.sub_self]
    · rw [if_neg c2, if_neg c2]
      exact last_bit hn (x := wrap64 ((l.length : Int) - n)) (m := l.length - n.toNat) (by unfold wrap64; omega) (by omega)
theorem few_eq (l : List Sp) : wigwaglaw07_few.f l = some (decide ((l.length : Int) ≤ 50)) := rfl
theorem awake_at : wigwaglaw07_awake.f 20 = some true := by decide +kernel
theorem awake_eq (k : Nat) (h : 20 ≤ k) : wigwaglaw07_awake.f k = some true := at_rounds wigwaglaw07_awake.mono h awake_at
end Go.Proofs.Ytgaccappklhojaa.Pure
