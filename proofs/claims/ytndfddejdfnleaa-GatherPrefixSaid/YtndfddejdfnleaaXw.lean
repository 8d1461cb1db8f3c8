/- Words of this session: a call of a closure as one step of a region; nothing of the program in it. -/
import Derived.Test.YtndfddejdfnleaaWMore
import Derived.Laws.Externs
import Derived.Lib.Mul64
import Derived.Laws.Bits64b
namespace Go.Proofs.Ytndfddejdfnleaa.P
open Go.RowKit Go.Proofs.YtndfddejdfnleaaW.PrintWords Go.Proofs.YtndfddejdfnleaaW.PrintLast Go.Proofs.YtndfddejdfnleaaW.PrintMore
section
variable {P : Program} {ops : Array Oper} {Q : Exit → Act → World → Prop}
/-- The operation at hand is a call of a function value that is the closure of function f. -/
theorem gate_closure {rest : List Oper} {o : Oper} {a : Act} {W : World} {f : FuncId} {c : Tmp} {as : Array Operand} {ts : Array TypeId} {cap : Array Value}
    (_ho : o.op = .call { callee := .value (.tmp c), args := as, argTypes := ts }) (_hc : a.eval (.tmp c) = .func (.func f) #[] cap)
    (h : wpList P ops Q (o :: rest) a W) : wpList P ops Q (o :: rest) a W := h
theorem goesC_ {rest : List Oper} {oi : Oper} {a : Act} {w : World} (N : Option Tmp) (hd : oi.dst = N) (hg : oi.guard = none) {f : FuncId} {fn : Func} {c : Tmp} {as : Array Operand} {ts : Array TypeId} {cap : Array Value}
    (hf : P.funcs[f]? = some fn) (hname : (fn.name == "runtime.NumGoroutine") = false) (hb : fn.body.isSome = true) (args : Array Value)
    (hop : oi.op = .call { callee := .value (.tmp c), args := as, argTypes := ts }) (hc : a.eval (.tmp c) = .func (.func f) #[] cap) (hargs : as.map a.eval ++ cap = args)
    (h : Calls P f args w fun e w' => ∃ v, e = .returned v ∧ wpList P ops Q rest (a.put N v) w') : wpList P ops Q (oi :: rest) a w := by
  refine wpList_plain hg fun K hK => ?_
  have he := enters_ hf hname hb args w
  have hrun : (execOp a.eval oi).run P w = .ok (.enter f args) w := by
    unfold execOp
    simp [hop, resolve, hc, Deferred.ofValue, invoke, hargs, he]
  unfold Oper.wp
  rw [hrun, Oper.upon_enter]
  refine h.mono fun e w'' hh => ?_
  obtain ⟨v, rfl, hk⟩ := hh
  subst hd
  exact hK _ _ hk
theorem goesS_ {oi : Oper} {N : Option Tmp} {a : Act} {w : World} {K : Act → World → Prop} {f : FuncId} {fn : Func} {c : Tmp} {as : Array Operand} {ts : Array TypeId} {cap : Array Value} (hf : P.funcs[f]? = some fn) (hname : (fn.name == "runtime.NumGoroutine") = false) (hb : fn.body.isSome = true) (args : Array Value)
    (hw : Region.wanted oi (yielded ops a.tmps) = true) (hN : oi.dst = N) (hop : oi.op = .call { callee := .value (.tmp c), args := as, argTypes := ts }) (hc : a.eval (.tmp c) = .func (.func f) #[] cap) (hargs : as.map a.eval ++ cap = args)
    (h : Calls P f args w fun e w' => ∃ v, e = .returned v ∧ K (a.put N v) w') : if Region.wanted oi (yielded ops a.tmps) = true then Oper.wp P oi a w K Q else K (a.put N undef) w := by
  refine call_ f args hw hN ?_ h
  have he := enters_ hf hname hb args w
  unfold execOp
  simp [hop, resolve, hc, Deferred.ofValue, invoke, hargs, he]
end
@[go_sem] theorem run_store_nil_fn {P : Program} {w : World} {a : Addr} {m : Mode} : (store a .nilFunc m).run P w = stored P w a .nilFunc m := run_store P w a _ m rfl
@[go_sem] theorem run_store_fn {P : Program} {w : World} {a : Addr} {m : Mode} (fn : Fn) (first captured : Array Value) : (store a (.func fn first captured) m).run P w = stored P w a (.func fn first captured) m := run_store P w a _ m rfl
/-- What is only read, and has an element, lies in no block that may change. -/
theorem V_blk {α : Type} {d : Kd α} {e base n c g : Nat} {ok : Nat → Prop} {W : World} {ad : Addr} {xs : List α} (h : Kd.V d e W base ok (.slice (some ad) n c) xs) (hok : ∀ k, ok k → k ≠ g) (hs : 0 < d.sz) (hp : 0 < xs.length) : ad.block ≠ g := by
  intro hg
  obtain ⟨_, _, hf⟩ := Kd.V_at h
  have h2 := hf { W with heap := W.heap.setIfInBounds ad.block (.cells #[] 0 (0, 0)) } (fun k hk _ => by
    have hne := hok k hk
    rw [← hg] at hne
    simp [Ne.symm hne])
  obtain ⟨_, _, h3⟩ := h2
  obtain ⟨ad', ea, hc⟩ := h3 hp
  injection ea with ea
  subst ea
  obtain ⟨cs, hl, _, hcell⟩ := hc 0 (xs[0]) (List.getElem?_eq_getElem hp)
  have h4 := hcell 0 (cs[0]'(by omega)) (List.getElem?_eq_getElem (by omega))
  have h5 : (ad.add (0 * d.sz + 0)).block = ad.block := add_block ad _
  simp only [World.cell?, h5, Array.getElem?_setIfInBounds] at h4
  split at h4
  · rename_i h6
    split at h6
    · split at h6
      · injection h6 with h6
        injection h6 with h6
        subst h6
        split at h4 <;> simp at h4
      · cases h6
    · rename_i h7
      exact absurd trivial h7
  · cases h4
end Go.Proofs.Ytndfddejdfnleaa.P
