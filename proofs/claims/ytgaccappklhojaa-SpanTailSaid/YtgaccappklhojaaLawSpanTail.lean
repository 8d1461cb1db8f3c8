-- Printed for this claim by xprint.py of this session: contracts of this session's own stand in for what the print does not take
import Derived.Test.YtgaccappklhojaaRows
import Derived.Test.YtgaccappklhojaaPureSpanTail
import Derived.Test.YtgaccappklhojaaXr
import Derived.WalkKit
import Derived.ProofKit
import Derived.OpenShut
import Derived.ShutString
import Derived.ChangeOld
import Derived.Below
import Derived.SizedLaws
namespace Go.Proofs.Ytgaccappklhojaa.spanTail
open Go.ChangeShapes Go.WideShapes Go.ChangeAt Go.RowKit Go.Proofs.Ytgaccappklhojaa.P Go.Proofs.Ytgaccappklhojaa.P.spanTail Go.Proofs.YtgaccappklhojaaW.PrintWords Go.Proofs.YtgaccappklhojaaW.PrintLast
open Go.ChangeMaps (open_string shut_string)
set_option linter.unusedVariables false
set_option linter.unusedSimpArgs false
theorem own : ownKnob Try.prog.godebug = none := by kernel_rfl
theorem laidOut : laidOutB Try.prog = true := by kernel_rfl
theorem rdv_25 {H : Type} {enc : TypeId × Value → H} {W : World} {fuel : Nat} {cs : List Value} {x : DataW H × List MemPlace} (h : DataW.trod enc Try.prog W 0 (fun _ => true) true fuel 25 cs = some x) :
    ∃ (b0 : Int) (b1 : Int), cs = [.int .u64 b0, .int .u64 b1] ∧ (Lit.int .u64 b0).wf = true ∧ (Lit.int .u64 b1).wf = true := by
  obtain ⟨ys, n', hn', hy, hlen, hyl, hf⟩ := DataW.trod_struct Try.underlying25 h
  rw [show Try.prog.cellsOf 25 = 2 from by kernel_rfl] at hlen
  match cs, hlen with
  | [c0, c1], _ =>
    have g0 := hf 0 _ rfl
    simp only [List.getElem_toArray, List.getElem_cons_zero, List.getElem_cons_succ] at g0
    rw [show Try.prog.cellsOf 23 = 1 from by kernel_rfl] at g0
    change DataW.trod enc Try.prog W 0 (fun _ => true) true n' 23 [c0] = ys[0]? at g0
    rw [List.getElem?_eq_getElem (by rw [hyl]; decide)] at g0
    obtain ⟨b0, e0, w0⟩ := (rd_int Try.underlying23) _ _ _ g0
    obtain ⟨rfl, _⟩ := List.cons.inj (e0 : [c0] = [.int .u64 b0])
    have g1 := hf 1 _ rfl
    simp only [List.getElem_toArray, List.getElem_cons_zero, List.getElem_cons_succ] at g1
    rw [show Try.prog.cellsOf 23 = 1 from by kernel_rfl] at g1
    change DataW.trod enc Try.prog W 0 (fun _ => true) true n' 23 [c1] = ys[1]? at g1
    rw [List.getElem?_eq_getElem (by rw [hyl]; decide)] at g1
    obtain ⟨b1, e1, w1⟩ := (rd_int Try.underlying23) _ _ _ g1
    obtain ⟨rfl, _⟩ := List.cons.inj (e1 : [c1] = [.int .u64 b1])
    exact ⟨b0, b1, rfl, w0, w1⟩
instance : Inhabited S25 := ⟨z25⟩
theorem rd_25 {H : Type} {enc : TypeId × Value → H} {W : World} : RdT enc Try.prog W 25 k25 WF25 := by
  intro fuel cs x h
  obtain ⟨b0, b1, rfl, w0, w1⟩ := rdv_25 h
  exact ⟨⟨b0, b1⟩, k25_mk W ⟨b0, b1⟩, w0, w1⟩
set_option maxRecDepth 100000 in
theorem lifted (os : Os) (started : os.Started) (H : Type) (enc : TypeId × Value → H) :
    ReturnsInHanded {} Try.checked os 9 .any (Rows.spanTailSpec.pre6 enc Try.prog Try.f9 Rows.spanTailRow.domain false) (Rows.spanTailSpec.post enc Try.prog Try.f9 false true false false) := by
  refine returnsInHanded_of_change_sized (C := Try.checked) own started (by kernel_rfl) Try.func9
    (ChangeSpec.witness6 (enc := enc) (C := Try.checked) false ⟨#[], #[.slice none 0 0, .int .i64 0], []⟩ 8 (by kernel_rfl) (by kernel_rfl) (by kernel_rfl) (by kernel_rfl)) ?_
  intro W base args ds gs before hval0 hW hcnd hsz0 _
  have hsz : (DataW.weightsEach Try.prog (Try.f9.params.toList ++ Rows.spanTailSpec.plain.varTypes Try.prog) (ds ++ gs)).all (· ≤ reachBytes) = true := hsz0
  have hval : ∀ (j : Nat) t v, Try.f9.params[j]? = some t → args[j]? = some v → Value.okWide Try.prog W .any base t v := hval0
  have hW' := hW
  obtain ⟨p, q, hA0, hV, rfl, hfz, hnd⟩ := hW
  have hA : DataW.TrodAll enc Try.prog W 0 (fun _ => true) true Try.f9.params.toList args.toList ds p := hA0
  rw [Try.params9] at hA hval hsz
  obtain ⟨v0, vs0, d0, ds0, p0, q0, hargs, rfl, rfl, h0, r0⟩ := trodAll_cons hA
  obtain ⟨v1, vs1, d1, ds1, p1, q1, rfl, rfl, rfl, h1, r1⟩ := trodAll_cons r0
  obtain ⟨rfl, rfl, rfl⟩ := trodAll_nil r1
  obtain rfl : args = #[v0, v1] := by cases args; simp_all
  obtain ⟨rfl, rfl⟩ := trodVars_none hV
  have k0 := h0
  have lt0 : ∀ x ∈ p0, x.block < W.heap.size := by obtain ⟨m, hm⟩ := k0; exact DataW.trod_lt m _ _ _ hm
  obtain ⟨A0, len0, cap0, rfl⟩ := okWide_slice Try.underlying22 (hval 0 22 v0 rfl rfl)
  obtain ⟨fu0, hf0⟩ := h0
  obtain ⟨l0, rfl, hC0, hc0, hw0, hm0, _⟩ := rd_row Try.underlying22 (by kernel_rfl) rd_25 (fuel := fu0) (by simpa [Value.cells] using hf0)
  obtain ⟨a1, rfl, rfl, rfl, w1⟩ := open_int Try.underlying3 (hval 1 3 v1 rfl rfl) h1
  clear hA0 hval0 hsz0 hsz
  obtain ⟨k, hpure⟩ := Pure.SpanTail l0 a1 (Nat.le_trans hc0 hm0) hw0 w1
  refine (wigwaglaw07_SpanTail.calls k _ _ l0 a1 true W hC0 hc0 hpure).mono fun e W' ⟨he, hd⟩ => ?_
  have bel : Below W.heap.size W W' := hd
  subst he
  exact ⟨_, rfl, _, _, _, [], _, [], hW', trodAll_mk1 (shut_bool Try.underlying4 _), (trodAll_cons_mk (Below.trod laidOut (by kernel_rfl) (of_decide_eq_true (by kernel_rfl)) k0 bel lt0) (trodAll_cons_mk (shut_int Try.underlying3 w1) trodAll_mk0)), rfl, bel.frame _, fun h => by cases h⟩
theorem over : Rows.spanTailRow.holds Try.pinned (OpenSpec.ofChange Rows.spanTailSpec) :=
  OpenClaim.holds_of_wide 9 Try.f9 rfl rfl rfl rfl rfl rfl rfl ⟨rfl, rfl, rfl, rfl, rfl⟩ rfl rfl rfl rfl rfl (by kernel_rfl) Try.func9 (by kernel_rfl)
    (of_decide_eq_true (by kernel_rfl)) (by unfold Func.isWrapper; first | (rw [if_pos (by decide +kernel)]; kernel_rfl) | (rw [if_neg (by decide +kernel)]; exact ⟨rfl, rfl⟩))
    (fun os started H enc _ => lifted os started H enc)
end Go.Proofs.Ytgaccappklhojaa.spanTail
namespace Go.Proofs.Ytgaccappklhojaa
/-- The row, under a short name, for the claim. -/
theorem spanTail_holds : Rows.SpanTailSaid := spanTail.over
end Go.Proofs.Ytgaccappklhojaa
#print axioms Go.Proofs.Ytgaccappklhojaa.spanTail_holds
