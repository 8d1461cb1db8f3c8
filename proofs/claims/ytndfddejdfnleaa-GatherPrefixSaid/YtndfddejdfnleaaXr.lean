/- Words of this session: what a law's arguments read as, as values of Lean's own types; nothing of the program in it. -/
import Derived.Test.YtndfddejdfnleaaWMore
import Derived.Deep.Slices
import Derived.SizedLaws
namespace Go.Proofs.Ytndfddejdfnleaa.P
open Go.RowKit Go.Proofs.YtndfddejdfnleaaW.PrintWords Go.Proofs.YtndfddejdfnleaaW.PrintLast Go.Proofs.YtndfddejdfnleaaW.PrintMore
/-! What an argument reads as, as a value of its own type. -/
section
variable {H : Type} {P : Program} {W : World} {α : Type}
open Go.ChangeShapes Go.WideShapes
/-- Whatever reads at this type is a value of this kind that is well formed. -/
def RdT (enc : TypeId × Value → H) (P : Program) (W : World) (t : TypeId) (d : Kd α) (wf : α → Prop) : Prop :=
  ∀ fuel cs x, DataW.trod enc P W 0 (fun _ => true) true fuel t cs = some x → ∃ a : α, d.K W a cs ∧ wf a
variable {enc : TypeId × Value → H}
theorem rd_int {t : TypeId} {k : IntKind} (ht : P.underlying t = some (.int k)) : RdT enc P W t (Kd.int k) (fun a => (Lit.int k a).wf = true) := by
  intro fuel cs x h
  obtain ⟨n, rfl, _, hw⟩ := DataW.trod_int ht h
  exact ⟨n, rfl, hw⟩
theorem rd_bool {t : TypeId} (ht : P.underlying t = some .bool) : RdT enc P W t Kd.bool (fun _ => True) := by
  intro fuel cs x h
  obtain ⟨n, rfl, _⟩ := DataW.trod_bool ht h
  exact ⟨n, rfl, trivial⟩
/-- A slice's elements. -/
theorem rd_row [Inhabited α] {t e : TypeId} {d : Kd α} {wf : α → Prop} (ht : P.underlying t = some (.slice e)) (hs : P.cellsOf e = d.sz) (he : RdT enc P W e d wf)
    {fuel : Nat} {A : Option Addr} {len cap : Nat} {x : DataW H × List MemPlace} (h : DataW.trod enc P W 0 (fun _ => true) true fuel t [.slice A len cap] = some x) :
    ∃ xs : List α, xs.length = len ∧ d.C W A len xs ∧ len ≤ cap ∧ (∀ a ∈ xs, wf a) ∧ cap ≤ maxLen ∧ (x.1 = .nil ∧ xs = [] ∨ ∃ es sp, x.1 = .slice es sp ∧ es.length = len) := by
  rcases Go.Deep.open_slice ht h with ⟨hcs, hx⟩ | ⟨a, len', cap', m, n, D, Pl, hcs, hb, hl, hm, hmm, hx, hi⟩
  · simp only [List.cons.injEq, Value.slice.injEq, and_true] at hcs
    obtain ⟨rfl, rfl, rfl⟩ := hcs
    exact ⟨[], rfl, ⟨rfl, by omega, fun hn => absurd hn (by omega)⟩, Nat.le_refl _, by simp, by unfold maxLen; omega, .inl ⟨by rw [hx], rfl⟩⟩
  · simp only [List.cons.injEq, Value.slice.injEq, and_true] at hcs
    obtain ⟨rfl, rfl, rfl⟩ := hcs
    have hlm : len ≤ m := by rw [hmm]; split <;> omega
    have key : ∀ i, i < len → ∃ p : α, (∃ cs', W.cells? 0 (a.add (i * P.cellsOf e)) (P.cellsOf e) = some cs' ∧ d.K W p cs') ∧ wf p := by
      intro i hil
      obtain ⟨cs', hc, ht'⟩ := hi i (by omega)
      obtain ⟨p, hp, hw⟩ := he _ _ _ ht'
      exact ⟨p, ⟨cs', hc, hp⟩, hw⟩
    obtain ⟨f, hf⟩ := Go.Deep.choose_lt key
    refine ⟨(List.range len).map f, by simp, ⟨by simp, by unfold maxLen at hm; omega, fun _ => ⟨a, rfl, ?_⟩⟩, hl, ?_, hm, .inr ⟨_, _, by rw [hx], by simp⟩⟩
    · intro j p hj
      have hjl : j < len := by
        have := (List.getElem?_eq_some_iff.1 hj).1
        simpa using this
      have hp : p = f j := by
        rw [List.getElem?_map, List.getElem?_range hjl] at hj
        simpa using hj.symm
      subst hp
      obtain ⟨⟨cs', hc, hk⟩, _⟩ := hf j hjl
      obtain ⟨_, hcl, hat⟩ := World.cells?_some hc
      refine ⟨cs', hcl.trans hs, hk, fun i u hu => ?_⟩
      have hil : i < cs'.length := (List.getElem?_eq_some_iff.1 hu).1
      have h1 := hat i (by omega)
      rw [hs] at h1
      rw [← Go.Deep.add_add, h1]
      exact hu
    · intro p hp
      simp only [List.mem_map, List.mem_range] at hp
      obtain ⟨i, hil, rfl⟩ := hp
      exact (hf i hil).2
/-- A slice within a struct or a slice. -/
theorem rd_slice [Inhabited α] {t e : TypeId} {d : Kd α} {wf : α → Prop} (ht : P.underlying t = some (.slice e)) (hs : P.cellsOf e = d.sz) (he : RdT enc P W e d wf) :
    RdT enc P W t (Kd.slice e d) (fun xs => xs.length ≤ maxLen ∧ ∀ a ∈ xs, wf a) := by
  intro fuel cs x h
  have hform : ∃ A len cap, cs = [.slice A len cap] := by
    rcases Go.Deep.open_slice ht h with ⟨hcs, _⟩ | ⟨a, len', cap', _, _, _, _, hcs, _⟩
    · exact ⟨_, _, _, hcs⟩
    · exact ⟨_, _, _, hcs⟩
  obtain ⟨A, len, cap, rfl⟩ := hform
  obtain ⟨xs, rfl, hC, hc, hw, hm, _⟩ := rd_row ht hs he h
  exact ⟨xs, ⟨A, cap, rfl, hc, hC⟩, by omega, hw⟩
end
end Go.Proofs.Ytndfddejdfnleaa.P
