/- Words of this session: a call of a closure as one step of a region; nothing of the program in it. -/
import Derived.Test.YtadhkamocbhbmaaWMore
import Derived.Laws.Externs
import Derived.Lib.Mul64
import Derived.Laws.Bits64b
namespace Go.Proofs.Ytadhkamocbhbmaa.P
open Go.RowKit Go.Proofs.YtadhkamocbhbmaaW.PrintWords Go.Proofs.YtadhkamocbhbmaaW.PrintLast Go.Proofs.YtadhkamocbhbmaaW.PrintMore
section
variable {P : Program} {ops : Array Oper} {Q : Exit → Act → World → Prop}
/-- The operation at hand is a call of a function value that is the closure of function f. -/
theorem gate_closure {rest : List Oper} {o : Oper} {a : Act} {W : World} {f : FuncId} {c : Tmp} {as : Array Operand} {ts : Array TypeId} {cap : Array Value}
    (_ho : o.op = .call { callee := .value (.tmp c), args := as, argTypes := ts }) (_hc : a.eval (.tmp c) = .func (.func f) #[] cap)
    (h : wpList P ops Q (o :: rest) a W) : wpList P ops Q (o :: rest) a W := h
theorem goesC_ {rest : List Oper} {oi : Oper} {a : Act} {w : World} (N : Option Tmp) (hd : oi.dst = N) (hg : oi.guard = none) {f : FuncId} {fn : Func} {c : Tmp} {as : Array Operand} {ts : Array TypeId} {cap : Array Value}
    (hf : P.funcs[f]? = some fn) (hname : (fn.name == "runtime.NumGoroutine") = false) (hb : fn.body.isSome = true) (args : Array Value)
    (hop : oi.op = .call { callee := .value (.tmp c), args := as, argTypes := ts }) (hc : a.eval (.tmp c) = .func (.func f) #[] cap) (hargs : as.map a.eval ++ cap = args)
    (h : Calls P f args w fun e w' => ∃ v, e = .returned v ∧ wpList P ops Q rest (a.put N v) w') : wpList P ops Q (oi :: rest) a w := by
  refine wpList_plain hg fun K hK => ?_
  have he := enters_ hf hname hb args w
  have hrun : (execOp a.eval oi).run P w = .ok (.enter f args) w := by
    unfold execOp
    simp [hop, resolve, hc, Deferred.ofValue, invoke, hargs, he]
  unfold Oper.wp
  rw [hrun, Oper.upon_enter]
  refine h.mono fun e w'' hh => ?_
  obtain ⟨v, rfl, hk⟩ := hh
  subst hd
  exact hK _ _ hk
theorem goesS_ {oi : Oper} {N : Option Tmp} {a : Act} {w : World} {K : Act → World → Prop} {f : FuncId} {fn : Func} {c : Tmp} {as : Array Operand} {ts : Array TypeId} {cap : Array Value} (hf : P.funcs[f]? = some fn) (hname : (fn.name == "runtime.NumGoroutine") = false) (hb : fn.body.isSome = true) (args : Array Value)
    (hw : Region.wanted oi (yielded ops a.tmps) = true) (hN : oi.dst = N) (hop : oi.op = .call { callee := .value (.tmp c), args := as, argTypes := ts }) (hc : a.eval (.tmp c) = .func (.func f) #[] cap) (hargs : as.map a.eval ++ cap = args)
    (h : Calls P f args w fun e w' => ∃ v, e = .returned v ∧ K (a.put N v) w') : if Region.wanted oi (yielded ops a.tmps) = true then Oper.wp P oi a w K Q else K (a.put N undef) w := by
  refine call_ f args hw hN ?_ h
  have he := enters_ hf hname hb args w
  unfold execOp
  simp [hop, resolve, hc, Deferred.ofValue, invoke, hargs, he]
end
@[go_sem] theorem run_store_nil_fn {P : Program} {w : World} {a : Addr} {m : Mode} : (store a .nilFunc m).run P w = stored P w a .nilFunc m := run_store P w a _ m rfl
@[go_sem] theorem run_store_fn {P : Program} {w : World} {a : Addr} {m : Mode} (fn : Fn) (first captured : Array Value) : (store a (.func fn first captured) m).run P w = stored P w a (.func fn first captured) m := run_store P w a _ m rfl
/-- What is only read, and has an element, lies in no block that may change. -/
theorem V_blk {α : Type} {d : Kd α} {e base n c g : Nat} {ok : Nat → Prop} {W : World} {ad : Addr} {xs : List α} (h : Kd.V d e W base ok (.slice (some ad) n c) xs) (hok : ∀ k, ok k → k ≠ g) (hs : 0 < d.sz) (hp : 0 < xs.length) : ad.block ≠ g := by
  intro hg
  obtain ⟨_, _, hf⟩ := Kd.V_at h
  have h2 := hf { W with heap := W.heap.setIfInBounds ad.block (.cells #[] 0 (0, 0)) } (fun k hk _ => by
    have hne := hok k hk
    rw [← hg] at hne
    simp [Ne.symm hne])
  obtain ⟨_, _, h3⟩ := h2
  obtain ⟨ad', ea, hc⟩ := h3 hp
  injection ea with ea
  subst ea
  obtain ⟨cs, hl, _, hcell⟩ := hc 0 (xs[0]) (List.getElem?_eq_getElem hp)
  have h4 := hcell 0 (cs[0]'(by omega)) (List.getElem?_eq_getElem (by omega))
  have h5 : (ad.add (0 * d.sz + 0)).block = ad.block := add_block ad _
  simp only [World.cell?, h5, Array.getElem?_setIfInBounds] at h4
  split at h4
  · rename_i h6
    split at h6
    · split at h6
      · injection h6 with h6
        injection h6 with h6
        subst h6
        split at h4 <;> simp at h4
      · cases h6
    · rename_i h7
      exact absurd trivial h7
  · cases h4
section
variable {α : Type} {d : Kd α} {e t base g k : Nat} {ok : Nat → Prop} {w W : World} {v x0 x1 x2 x3 x4 x5 x6 a0 a1 a2 a3 a4 a5 a6 : Value} {xs : List α} {cs : Array Value}
/-- A variable of seven cells, written whole. -/
def set7 (W : World) (g : Nat) (a0 a1 a2 a3 a4 a5 a6 : Value) : World := ((((((W.setCell ⟨g, 0, none⟩ a0).setCell ⟨g, 1, none⟩ a1).setCell ⟨g, 2, none⟩ a2).setCell ⟨g, 3, none⟩ a3).setCell ⟨g, 4, none⟩ a4).setCell ⟨g, 5, none⟩ a5).setCell ⟨g, 6, none⟩ a6
theorem blk_put7 (h : W.heap[g]? = some (.cells #[x0, x1, x2, x3, x4, x5, x6] t (0, 0))) : (set7 W g a0 a1 a2 a3 a4 a5 a6).heap[g]? = some (.cells #[a0, a1, a2, a3, a4, a5, a6] t (0, 0)) :=
  blk_put (cs' := #[a0, a1, a2, a3, a4, a5, a6]) (blk_put (cs' := #[a0, a1, a2, a3, a4, a5, x6]) (blk_put (cs' := #[a0, a1, a2, a3, a4, x5, x6]) (blk_put (cs' := #[a0, a1, a2, a3, x4, x5, x6]) (blk_put (cs' := #[a0, a1, a2, x3, x4, x5, x6]) (blk_put (cs' := #[a0, a1, x2, x3, x4, x5, x6]) (blk_put (cs' := #[a0, x1, x2, x3, x4, x5, x6]) (h) 0 a0 rfl) 1 a1 rfl) 2 a2 rfl) 3 a3 rfl) 4 a4 rfl) 5 a5 rfl) 6 a6 rfl
theorem blk_far7 (h : W.heap[k]? = some (.cells cs t (0, 0))) (hne : k ≠ g) : (set7 W g a0 a1 a2 a3 a4 a5 a6).heap[k]? = some (.cells cs t (0, 0)) :=
  blk_far (blk_far (blk_far (blk_far (blk_far (blk_far (blk_far h hne a0) hne a1) hne a2) hne a3) hne a4) hne a5) hne a6
theorem R_set7 (h : d.R e W base ok v xs) (hb : W.heap[g]? = some (.cells cs t (0, 0))) (ht : ∀ q, q ∈ e :: d.E → q ≠ t) : d.R e (set7 W g a0 a1 a2 a3 a4 a5 a6) base ok v xs :=
  Kd.R_mono (Kd.R_far (p := ⟨g, 6, none⟩) (Kd.R_far (p := ⟨g, 5, none⟩) (Kd.R_far (p := ⟨g, 4, none⟩) (Kd.R_far (p := ⟨g, 3, none⟩) (Kd.R_far (p := ⟨g, 2, none⟩) (Kd.R_far (p := ⟨g, 1, none⟩) (Kd.R_far (p := ⟨g, 0, none⟩) (Kd.R_types h hb ht) (fun _ hk => hk.2) a0) (fun _ hk => hk.2) a1) (fun _ hk => hk.2) a2) (fun _ hk => hk.2) a3) (fun _ hk => hk.2) a4) (fun _ hk => hk.2) a5) (fun _ hk => hk.2) a6) (fun _ hk => hk.1)
theorem below_set7 (h : Below w.heap.size w W) (hg : w.heap.size ≤ g) : Below w.heap.size w (set7 W g a0 a1 a2 a3 a4 a5 a6) := below_set (below_set (below_set (below_set (below_set (below_set (below_set h hg) hg) hg) hg) hg) hg) hg
theorem ne_of {α : Type} {d : Kd α} {e t : Nat} (hE : d.E = []) (h : e ≠ t) : ∀ q, q ∈ e :: d.E → q ≠ t := by
  intro q hq
  rw [hE] at hq
  rw [List.mem_singleton.1 hq]
  exact h
/-- A row of one's own, or the end of one. -/
def VR {α : Type} (d : Kd α) (e : Nat) (W : World) (base : Nat) (v : Value) (xs : List α) : Prop := Kd.R d e W base (fun _ => True) v xs ∨ ∃ (A : Option Addr) (q : Nat) (xs0 : List α) (m : Nat), Kd.R d e W base (fun _ => True) (.slice A xs0.length q) xs0 ∧ m ≤ xs0.length ∧ v = .slice (if q = m then A else A.map (·.add (m * d.sz))) (xs0.drop m).length (q - m) ∧ xs = xs0.drop m
theorem VR_slice (h : VR d e W base v xs) : ∃ A c, v = .slice A xs.length c := by
  rcases h with h | ⟨A, q, xs0, m, h, _, rfl, rfl⟩
  · exact Kd.R_slice h
  · exact ⟨_, _, rfl⟩
theorem VR_set7 (h : VR d e W base v xs) (hb : W.heap[g]? = some (.cells cs t (0, 0))) (ht : ∀ q, q ∈ e :: d.E → q ≠ t) : VR d e (set7 W g a0 a1 a2 a3 a4 a5 a6) base v xs := by
  rcases h with h | ⟨A, q, xs0, m, h, hm, hv, hx⟩
  · exact .inl (R_set7 h hb ht)
  · exact .inr ⟨A, q, xs0, m, R_set7 h hb ht, hm, hv, hx⟩
theorem VR_V {base' : Nat} (h : VR d e W base v xs) : Kd.V d e W base' (fun k => base ≤ k) v xs := by
  rcases h with h | ⟨A, q, xs0, m, h, hm, rfl, rfl⟩
  · exact Kd.R_V (Kd.R_mono (Kd.R_bound h) (fun k hk => hk.2.1))
  · have h2 := Kd.R_F (Kd.R_mono (Kd.R_bound h) (ok' := fun k => base ≤ k) (fun k hk => hk.2.1))
    have hq := (Kd.R_reads' h).2.1
    exact Kd.V_mk (by rw [List.length_drop]; omega) (Kd.F_cut h2 hm hq)
theorem set7_fold (W : World) (g : Nat) (a0 a1 a2 a3 a4 a5 a6 : Value) : ((((((W.setCell ⟨g, 0, none⟩ a0).setCell ⟨g, 1, none⟩ a1).setCell ⟨g, 2, none⟩ a2).setCell ⟨g, 3, none⟩ a3).setCell ⟨g, 4, none⟩ a4).setCell ⟨g, 5, none⟩ a5).setCell ⟨g, 6, none⟩ a6 = set7 W g a0 a1 a2 a3 a4 a5 a6 := rfl
theorem blk7 {W1 : World} (hw : set7 W g a0 a1 a2 a3 a4 a5 a6 = W1) (h : W.heap[g]? = some (.cells #[x0, x1, x2, x3, x4, x5, x6] t (0, 0))) : W1.heap[g]? = some (.cells #[a0, a1, a2, a3, a4, a5, a6] t (0, 0)) := by rw [← hw]; exact blk_put7 h
theorem far7 {W1 : World} (hw : set7 W g a0 a1 a2 a3 a4 a5 a6 = W1) (hne : k ≠ g) (h : W.heap[k]? = some (.cells cs t (0, 0))) : W1.heap[k]? = some (.cells cs t (0, 0)) := by rw [← hw]; exact blk_far7 h hne
theorem R7 {W1 : World} (hw : set7 W g a0 a1 a2 a3 a4 a5 a6 = W1) (hb : W.heap[g]? = some (.cells cs t (0, 0))) (hE : d.E = []) (ht : e ≠ t) (h : d.R e W base ok v xs) : d.R e W1 base ok v xs := by rw [← hw]; exact R_set7 h hb (ne_of hE ht)
theorem below7 {W1 : World} (hw : set7 W g a0 a1 a2 a3 a4 a5 a6 = W1) (hg : w.heap.size ≤ g) (h : Below w.heap.size w W) : Below w.heap.size w W1 := by rw [← hw]; exact below_set7 h hg
/-- A variable of three cells, written whole. -/
def set3 (W : World) (g : Nat) (a0 a1 a2 : Value) : World := ((W.setCell ⟨g, 0, none⟩ a0).setCell ⟨g, 1, none⟩ a1).setCell ⟨g, 2, none⟩ a2
theorem set3_fold (W : World) (g : Nat) (a0 a1 a2 : Value) : ((W.setCell ⟨g, 0, none⟩ a0).setCell ⟨g, 1, none⟩ a1).setCell ⟨g, 2, none⟩ a2 = set3 W g a0 a1 a2 := rfl
theorem blk3 {W1 : World} (hw : set3 W g a0 a1 a2 = W1) (h : W.heap[g]? = some (.cells #[x0, x1, x2] t (0, 0))) : W1.heap[g]? = some (.cells #[a0, a1, a2] t (0, 0)) := by rw [← hw]; exact blk_put (cs' := #[a0, a1, a2]) (blk_put (cs' := #[a0, a1, x2]) (blk_put (cs' := #[a0, x1, x2]) h 0 a0 rfl) 1 a1 rfl) 2 a2 rfl
theorem far3 {W1 : World} (hw : set3 W g a0 a1 a2 = W1) (hne : k ≠ g) (h : W.heap[k]? = some (.cells cs t (0, 0))) : W1.heap[k]? = some (.cells cs t (0, 0)) := by rw [← hw]; exact blk_far (blk_far (blk_far h hne a0) hne a1) hne a2
theorem R3 {W1 : World} (hw : set3 W g a0 a1 a2 = W1) (hb : W.heap[g]? = some (.cells cs t (0, 0))) (hE : d.E = []) (ht : e ≠ t) (h : d.R e W base ok v xs) : d.R e W1 base ok v xs := by
  rw [← hw]
  exact Kd.R_mono (Kd.R_far (p := ⟨g, 2, none⟩) (Kd.R_far (p := ⟨g, 1, none⟩) (Kd.R_far (p := ⟨g, 0, none⟩) (Kd.R_types h hb (ne_of hE ht)) (fun _ hk => hk.2) a0) (fun _ hk => hk.2) a1) (fun _ hk => hk.2) a2) (fun _ hk => hk.1)
theorem below3 {W1 : World} (hw : set3 W g a0 a1 a2 = W1) (hg : w.heap.size ≤ g) (h : Below w.heap.size w W) : Below w.heap.size w W1 := by rw [← hw]; exact below_set (below_set (below_set h hg) hg) hg
end
theorem cells1 {W : World} {g t : Nat} {x0 : Value} (h : W.heap[g]? = some (.cells #[x0] t (0, 0))) : W.cell? ⟨g, 0, none⟩ = some x0 ∧ W.frozen? ⟨g, 0, none⟩ = false :=
  ⟨(blk_cell h 0).trans rfl, blk_frozen h 0⟩
theorem cells2 {W : World} {g t : Nat} {x0 x1 : Value} (h : W.heap[g]? = some (.cells #[x0, x1] t (0, 0))) : W.cell? ⟨g, 0, none⟩ = some x0 ∧ W.frozen? ⟨g, 0, none⟩ = false ∧ W.cell? ⟨g, 1, none⟩ = some x1 ∧ W.frozen? ⟨g, 1, none⟩ = false :=
  ⟨(blk_cell h 0).trans rfl, blk_frozen h 0, (blk_cell h 1).trans rfl, blk_frozen h 1⟩
theorem cells3 {W : World} {g t : Nat} {x0 x1 x2 : Value} (h : W.heap[g]? = some (.cells #[x0, x1, x2] t (0, 0))) : W.cell? ⟨g, 0, none⟩ = some x0 ∧ W.frozen? ⟨g, 0, none⟩ = false ∧ W.cell? ⟨g, 1, none⟩ = some x1 ∧ W.frozen? ⟨g, 1, none⟩ = false ∧ W.cell? ⟨g, 2, none⟩ = some x2 ∧ W.frozen? ⟨g, 2, none⟩ = false :=
  ⟨(blk_cell h 0).trans rfl, blk_frozen h 0, (blk_cell h 1).trans rfl, blk_frozen h 1, (blk_cell h 2).trans rfl, blk_frozen h 2⟩
theorem cells4 {W : World} {g t : Nat} {x0 x1 x2 x3 : Value} (h : W.heap[g]? = some (.cells #[x0, x1, x2, x3] t (0, 0))) : W.cell? ⟨g, 0, none⟩ = some x0 ∧ W.frozen? ⟨g, 0, none⟩ = false ∧ W.cell? ⟨g, 1, none⟩ = some x1 ∧ W.frozen? ⟨g, 1, none⟩ = false ∧ W.cell? ⟨g, 2, none⟩ = some x2 ∧ W.frozen? ⟨g, 2, none⟩ = false ∧ W.cell? ⟨g, 3, none⟩ = some x3 ∧ W.frozen? ⟨g, 3, none⟩ = false :=
  ⟨(blk_cell h 0).trans rfl, blk_frozen h 0, (blk_cell h 1).trans rfl, blk_frozen h 1, (blk_cell h 2).trans rfl, blk_frozen h 2, (blk_cell h 3).trans rfl, blk_frozen h 3⟩
theorem cells5 {W : World} {g t : Nat} {x0 x1 x2 x3 x4 : Value} (h : W.heap[g]? = some (.cells #[x0, x1, x2, x3, x4] t (0, 0))) : W.cell? ⟨g, 0, none⟩ = some x0 ∧ W.frozen? ⟨g, 0, none⟩ = false ∧ W.cell? ⟨g, 1, none⟩ = some x1 ∧ W.frozen? ⟨g, 1, none⟩ = false ∧ W.cell? ⟨g, 2, none⟩ = some x2 ∧ W.frozen? ⟨g, 2, none⟩ = false ∧ W.cell? ⟨g, 3, none⟩ = some x3 ∧ W.frozen? ⟨g, 3, none⟩ = false ∧ W.cell? ⟨g, 4, none⟩ = some x4 ∧ W.frozen? ⟨g, 4, none⟩ = false :=
  ⟨(blk_cell h 0).trans rfl, blk_frozen h 0, (blk_cell h 1).trans rfl, blk_frozen h 1, (blk_cell h 2).trans rfl, blk_frozen h 2, (blk_cell h 3).trans rfl, blk_frozen h 3, (blk_cell h 4).trans rfl, blk_frozen h 4⟩
theorem cells6 {W : World} {g t : Nat} {x0 x1 x2 x3 x4 x5 : Value} (h : W.heap[g]? = some (.cells #[x0, x1, x2, x3, x4, x5] t (0, 0))) : W.cell? ⟨g, 0, none⟩ = some x0 ∧ W.frozen? ⟨g, 0, none⟩ = false ∧ W.cell? ⟨g, 1, none⟩ = some x1 ∧ W.frozen? ⟨g, 1, none⟩ = false ∧ W.cell? ⟨g, 2, none⟩ = some x2 ∧ W.frozen? ⟨g, 2, none⟩ = false ∧ W.cell? ⟨g, 3, none⟩ = some x3 ∧ W.frozen? ⟨g, 3, none⟩ = false ∧ W.cell? ⟨g, 4, none⟩ = some x4 ∧ W.frozen? ⟨g, 4, none⟩ = false ∧ W.cell? ⟨g, 5, none⟩ = some x5 ∧ W.frozen? ⟨g, 5, none⟩ = false :=
  ⟨(blk_cell h 0).trans rfl, blk_frozen h 0, (blk_cell h 1).trans rfl, blk_frozen h 1, (blk_cell h 2).trans rfl, blk_frozen h 2, (blk_cell h 3).trans rfl, blk_frozen h 3, (blk_cell h 4).trans rfl, blk_frozen h 4, (blk_cell h 5).trans rfl, blk_frozen h 5⟩
theorem cells7 {W : World} {g t : Nat} {x0 x1 x2 x3 x4 x5 x6 : Value} (h : W.heap[g]? = some (.cells #[x0, x1, x2, x3, x4, x5, x6] t (0, 0))) : W.cell? ⟨g, 0, none⟩ = some x0 ∧ W.frozen? ⟨g, 0, none⟩ = false ∧ W.cell? ⟨g, 1, none⟩ = some x1 ∧ W.frozen? ⟨g, 1, none⟩ = false ∧ W.cell? ⟨g, 2, none⟩ = some x2 ∧ W.frozen? ⟨g, 2, none⟩ = false ∧ W.cell? ⟨g, 3, none⟩ = some x3 ∧ W.frozen? ⟨g, 3, none⟩ = false ∧ W.cell? ⟨g, 4, none⟩ = some x4 ∧ W.frozen? ⟨g, 4, none⟩ = false ∧ W.cell? ⟨g, 5, none⟩ = some x5 ∧ W.frozen? ⟨g, 5, none⟩ = false ∧ W.cell? ⟨g, 6, none⟩ = some x6 ∧ W.frozen? ⟨g, 6, none⟩ = false :=
  ⟨(blk_cell h 0).trans rfl, blk_frozen h 0, (blk_cell h 1).trans rfl, blk_frozen h 1, (blk_cell h 2).trans rfl, blk_frozen h 2, (blk_cell h 3).trans rfl, blk_frozen h 3, (blk_cell h 4).trans rfl, blk_frozen h 4, (blk_cell h 5).trans rfl, blk_frozen h 5, (blk_cell h 6).trans rfl, blk_frozen h 6⟩
end Go.Proofs.Ytadhkamocbhbmaa.P
