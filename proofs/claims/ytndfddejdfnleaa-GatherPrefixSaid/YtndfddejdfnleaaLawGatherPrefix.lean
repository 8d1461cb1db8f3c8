-- Printed for this claim by xprint.py of this session: contracts of this session's own stand in for what the print does not take
import Derived.Test.YtndfddejdfnleaaRows
import Derived.Test.YtndfddejdfnleaaPureGatherPrefix
import Derived.Test.YtndfddejdfnleaaXr
import Derived.WalkKit
import Derived.ProofKit
import Derived.OpenShut
import Derived.ShutString
import Derived.ChangeOld
import Derived.Below
import Derived.SizedLaws
namespace Go.Proofs.Ytndfddejdfnleaa.gatherPrefix
open Go.ChangeShapes Go.WideShapes Go.ChangeAt Go.RowKit Go.Proofs.Ytndfddejdfnleaa.P Go.Proofs.Ytndfddejdfnleaa.P.gatherPrefix Go.Proofs.YtndfddejdfnleaaW.PrintWords Go.Proofs.YtndfddejdfnleaaW.PrintLast
open Go.ChangeMaps (open_string shut_string)
set_option linter.unusedVariables false
set_option linter.unusedSimpArgs false
theorem own : ownKnob Try.prog.godebug = none := by kernel_rfl
theorem laidOut : laidOutB Try.prog = true := by kernel_rfl
theorem rdv_30 {H : Type} {enc : TypeId × Value → H} {W : World} {fuel : Nat} {cs : List Value} {x : DataW H × List MemPlace} (h : DataW.trod enc Try.prog W 0 (fun _ => true) true fuel 30 cs = some x) :
    ∃ (b0 : Int) (b1 : Int) (b2 : Int), cs = [.int .i64 b0, .int .i64 b1, .int .i64 b2] ∧ (Lit.int .i64 b0).wf = true ∧ (Lit.int .i64 b1).wf = true ∧ (Lit.int .i64 b2).wf = true := by
  obtain ⟨ys, n', hn', hy, hlen, hyl, hf⟩ := DataW.trod_struct Try.underlying30 h
  rw [show Try.prog.cellsOf 30 = 3 from by kernel_rfl] at hlen
  match cs, hlen with
  | [c0, c1, c2], _ =>
    have g0 := hf 0 _ rfl
    simp only [List.getElem_toArray, List.getElem_cons_zero, List.getElem_cons_succ] at g0
    rw [show Try.prog.cellsOf 3 = 1 from by kernel_rfl] at g0
    change DataW.trod enc Try.prog W 0 (fun _ => true) true n' 3 [c0] = ys[0]? at g0
    rw [List.getElem?_eq_getElem (by rw [hyl]; decide)] at g0
    obtain ⟨b0, e0, w0⟩ := (rd_int Try.underlying3) _ _ _ g0
    obtain ⟨rfl, _⟩ := List.cons.inj (e0 : [c0] = [.int .i64 b0])
    have g1 := hf 1 _ rfl
    simp only [List.getElem_toArray, List.getElem_cons_zero, List.getElem_cons_succ] at g1
    rw [show Try.prog.cellsOf 3 = 1 from by kernel_rfl] at g1
    change DataW.trod enc Try.prog W 0 (fun _ => true) true n' 3 [c1] = ys[1]? at g1
    rw [List.getElem?_eq_getElem (by rw [hyl]; decide)] at g1
    obtain ⟨b1, e1, w1⟩ := (rd_int Try.underlying3) _ _ _ g1
    obtain ⟨rfl, _⟩ := List.cons.inj (e1 : [c1] = [.int .i64 b1])
    have g2 := hf 2 _ rfl
    simp only [List.getElem_toArray, List.getElem_cons_zero, List.getElem_cons_succ] at g2
    rw [show Try.prog.cellsOf 3 = 1 from by kernel_rfl] at g2
    change DataW.trod enc Try.prog W 0 (fun _ => true) true n' 3 [c2] = ys[2]? at g2
    rw [List.getElem?_eq_getElem (by rw [hyl]; decide)] at g2
    obtain ⟨b2, e2, w2⟩ := (rd_int Try.underlying3) _ _ _ g2
    obtain ⟨rfl, _⟩ := List.cons.inj (e2 : [c2] = [.int .i64 b2])
    exact ⟨b0, b1, b2, rfl, w0, w1, w2⟩
instance : Inhabited S30 := ⟨z30⟩
theorem rd_30 {H : Type} {enc : TypeId × Value → H} {W : World} : RdT enc Try.prog W 30 k30 WF30 := by
  intro fuel cs x h
  obtain ⟨b0, b1, b2, rfl, w0, w1, w2⟩ := rdv_30 h
  exact ⟨⟨b0, b1, b2⟩, k30_mk W ⟨b0, b1, b2⟩, w0, w1, w2⟩
set_option maxRecDepth 100000 in
theorem lifted (os : Os) (started : os.Started) (H : Type) (enc : TypeId × Value → H) :
    ReturnsInHanded {} Try.checked os 4 .any (Rows.gatherPrefixSpec.pre6 enc Try.prog Try.f4 Rows.gatherPrefixRow.domain false) (Rows.gatherPrefixSpec.post enc Try.prog Try.f4 false true false false) := by
  refine returnsInHanded_of_change_sized (C := Try.checked) own started (by kernel_rfl) Try.func4
    (ChangeSpec.witness6 (enc := enc) (C := Try.checked) false ⟨#[], #[.slice none 0 0, .slice none 0 0], []⟩ 8 (by kernel_rfl) (by kernel_rfl) (by kernel_rfl) (by kernel_rfl)) ?_
  intro W base args ds gs before hval0 hW hcnd hsz0 _
  have hsz : (DataW.weightsEach Try.prog (Try.f4.params.toList ++ Rows.gatherPrefixSpec.plain.varTypes Try.prog) (ds ++ gs)).all (· ≤ reachBytes) = true := hsz0
  have hval : ∀ (j : Nat) t v, Try.f4.params[j]? = some t → args[j]? = some v → Value.okWide Try.prog W .any base t v := hval0
  have hW' := hW
  obtain ⟨p, q, hA0, hV, rfl, hfz, hnd⟩ := hW
  have hA : DataW.TrodAll enc Try.prog W 0 (fun _ => true) true Try.f4.params.toList args.toList ds p := hA0
  rw [Try.params4] at hA hval hsz
  obtain ⟨v0, vs0, d0, ds0, p0, q0, hargs, rfl, rfl, h0, r0⟩ := trodAll_cons hA
  obtain ⟨v1, vs1, d1, ds1, p1, q1, rfl, rfl, rfl, h1, r1⟩ := trodAll_cons r0
  obtain ⟨rfl, rfl, rfl⟩ := trodAll_nil r1
  obtain rfl : args = #[v0, v1] := by cases args; simp_all
  obtain ⟨rfl, rfl⟩ := trodVars_none hV
  have k0 := h0
  have lt0 : ∀ x ∈ p0, x.block < W.heap.size := by obtain ⟨m, hm⟩ := k0; exact DataW.trod_lt m _ _ _ hm
  obtain ⟨A0, len0, cap0, rfl⟩ := okWide_slice Try.underlying23 (hval 0 23 v0 rfl rfl)
  obtain ⟨fu0, hf0⟩ := h0
  obtain ⟨l0, rfl, hC0, hc0, hw0, hm0, _⟩ := rd_row Try.underlying23 (by kernel_rfl) (rd_int Try.underlying5) (fuel := fu0) (by simpa [Value.cells] using hf0)
  have k1 := h1
  have lt1 : ∀ x ∈ p1, x.block < W.heap.size := by obtain ⟨m, hm⟩ := k1; exact DataW.trod_lt m _ _ _ hm
  obtain ⟨A1, len1, cap1, rfl⟩ := okWide_slice Try.underlying24 (hval 1 24 v1 rfl rfl)
  obtain ⟨fu1, hf1⟩ := h1
  obtain ⟨l1, rfl, hC1, hc1, hw1, hm1, _⟩ := rd_row Try.underlying24 (by kernel_rfl) rd_30 (fuel := fu1) (by simpa [Value.cells] using hf1)
  clear hA0 hval0 hsz0 hsz
  obtain ⟨k, hpure⟩ := Pure.GatherPrefix l0 l1 (Nat.le_trans hc0 hm0) hw0 (Nat.le_trans hc1 hm1) hw1
  refine (wigwaglaw17_GatherPrefix.calls k _ _ l0 _ _ l1 true W hC0 hc0 hC1 hc1 hpure).mono fun e W' ⟨he, hd⟩ => ?_
  have bel : Below W.heap.size W W' := hd
  subst he
  exact ⟨_, rfl, _, _, _, [], _, [], hW', trodAll_mk1 (shut_bool Try.underlying4 _), (trodAll_cons_mk (Below.trod laidOut (by kernel_rfl) (of_decide_eq_true (by kernel_rfl)) k0 bel lt0) (trodAll_cons_mk (Below.trod laidOut (by kernel_rfl) (of_decide_eq_true (by kernel_rfl)) k1 bel lt1) trodAll_mk0)), rfl, bel.frame _, fun h => by cases h⟩
theorem over : Rows.gatherPrefixRow.holds Try.pinned (OpenSpec.ofChange Rows.gatherPrefixSpec) :=
  OpenClaim.holds_of_wide 4 Try.f4 rfl rfl rfl rfl rfl rfl rfl ⟨rfl, rfl, rfl, rfl, rfl⟩ rfl rfl rfl rfl rfl (by kernel_rfl) Try.func4 (by kernel_rfl)
    (of_decide_eq_true (by kernel_rfl)) (by unfold Func.isWrapper; first | (rw [if_pos (by decide +kernel)]; kernel_rfl) | (rw [if_neg (by decide +kernel)]; exact ⟨rfl, rfl⟩))
    (fun os started H enc _ => lifted os started H enc)
end Go.Proofs.Ytndfddejdfnleaa.gatherPrefix
namespace Go.Proofs.Ytndfddejdfnleaa
/-- The row, under a short name, for the claim. -/
theorem gatherPrefix_holds : Rows.GatherPrefixSaid := gatherPrefix.over
end Go.Proofs.Ytndfddejdfnleaa
#print axioms Go.Proofs.Ytndfddejdfnleaa.gatherPrefix_holds
