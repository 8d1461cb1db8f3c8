-- Printed for this claim by xprint.py of this session: contracts of this session's own stand in for what the print does not take
import Derived.Test.YtadhkamocbhbmaaRows
import Derived.Test.YtadhkamocbhbmaaPureSupplyText
import Derived.Test.YtadhkamocbhbmaaXr
import Derived.WalkKit
import Derived.ProofKit
import Derived.OpenShut
import Derived.ShutString
import Derived.ChangeOld
import Derived.Below
import Derived.SizedLaws
namespace Go.Proofs.Ytadhkamocbhbmaa.supplyText
open Go.ChangeShapes Go.WideShapes Go.ChangeAt Go.RowKit Go.Proofs.Ytadhkamocbhbmaa.P Go.Proofs.Ytadhkamocbhbmaa.P.supplyText Go.Proofs.YtadhkamocbhbmaaW.PrintWords Go.Proofs.YtadhkamocbhbmaaW.PrintLast
open Go.ChangeMaps (open_string shut_string)
set_option linter.unusedVariables false
set_option linter.unusedSimpArgs false
theorem own : ownKnob Try.prog.godebug = none := by kernel_rfl
theorem laidOut : laidOutB Try.prog = true := by kernel_rfl
theorem rdv_48 {H : Type} {enc : TypeId × Value → H} {W : World} {fuel : Nat} {cs : List Value} {x : DataW H × List MemPlace} (h : DataW.trod enc Try.prog W 0 (fun _ => true) true fuel 48 cs = some x) :
    ∃ a : S48, k48.K W a cs ∧ WF48 a := by
  obtain ⟨ys, n', hn', hy, hlen, hyl, hf⟩ := DataW.trod_struct Try.underlying48 h
  rw [show Try.prog.cellsOf 48 = 7 from by kernel_rfl] at hlen
  match cs, hlen with
  | [c0, c1, c2, c3, c4, c5, c6], _ =>
    have g0 := hf 0 _ rfl
    simp only [List.getElem_toArray, List.getElem_cons_zero, List.getElem_cons_succ] at g0
    rw [show Try.prog.cellsOf 3 = 1 from by kernel_rfl] at g0
    change DataW.trod enc Try.prog W 0 (fun _ => true) true n' 3 [c0] = ys[0]? at g0
    rw [List.getElem?_eq_getElem (by rw [hyl]; decide)] at g0
    obtain ⟨b0, e0, w0⟩ := (rd_int Try.underlying3) _ _ _ g0
    obtain ⟨rfl, _⟩ := List.cons.inj (e0 : [c0] = [.int .i64 b0])
    have g1 := hf 1 _ rfl
    simp only [List.getElem_toArray, List.getElem_cons_zero, List.getElem_cons_succ] at g1
    rw [show Try.prog.cellsOf 22 = 1 from by kernel_rfl] at g1
    change DataW.trod enc Try.prog W 0 (fun _ => true) true n' 22 [c1] = ys[1]? at g1
    rw [List.getElem?_eq_getElem (by rw [hyl]; decide)] at g1
    obtain ⟨b1, ⟨A1, d1, e1, l1, q1⟩, w1⟩ := (rd_slice Try.underlying22 (by kernel_rfl) (rd_int Try.underlying5)) _ _ _ g1
    obtain ⟨rfl, _⟩ := List.cons.inj (e1 : [c1] = [.slice A1 b1.length d1])
    have g2 := hf 2 _ rfl
    simp only [List.getElem_toArray, List.getElem_cons_zero, List.getElem_cons_succ] at g2
    rw [show Try.prog.cellsOf 3 = 1 from by kernel_rfl] at g2
    change DataW.trod enc Try.prog W 0 (fun _ => true) true n' 3 [c2] = ys[2]? at g2
    rw [List.getElem?_eq_getElem (by rw [hyl]; decide)] at g2
    obtain ⟨b2, e2, w2⟩ := (rd_int Try.underlying3) _ _ _ g2
    obtain ⟨rfl, _⟩ := List.cons.inj (e2 : [c2] = [.int .i64 b2])
    have g3 := hf 3 _ rfl
    simp only [List.getElem_toArray, List.getElem_cons_zero, List.getElem_cons_succ] at g3
    rw [show Try.prog.cellsOf 24 = 1 from by kernel_rfl] at g3
    change DataW.trod enc Try.prog W 0 (fun _ => true) true n' 24 [c3] = ys[3]? at g3
    rw [List.getElem?_eq_getElem (by rw [hyl]; decide)] at g3
    obtain ⟨b3, e3, w3⟩ := (rd_int Try.underlying24) _ _ _ g3
    obtain ⟨rfl, _⟩ := List.cons.inj (e3 : [c3] = [.int .u64 b3])
    have g4 := hf 4 _ rfl
    simp only [List.getElem_toArray, List.getElem_cons_zero, List.getElem_cons_succ] at g4
    rw [show Try.prog.cellsOf 3 = 1 from by kernel_rfl] at g4
    change DataW.trod enc Try.prog W 0 (fun _ => true) true n' 3 [c4] = ys[4]? at g4
    rw [List.getElem?_eq_getElem (by rw [hyl]; decide)] at g4
    obtain ⟨b4, e4, w4⟩ := (rd_int Try.underlying3) _ _ _ g4
    obtain ⟨rfl, _⟩ := List.cons.inj (e4 : [c4] = [.int .i64 b4])
    have g5 := hf 5 _ rfl
    simp only [List.getElem_toArray, List.getElem_cons_zero, List.getElem_cons_succ] at g5
    rw [show Try.prog.cellsOf 24 = 1 from by kernel_rfl] at g5
    change DataW.trod enc Try.prog W 0 (fun _ => true) true n' 24 [c5] = ys[5]? at g5
    rw [List.getElem?_eq_getElem (by rw [hyl]; decide)] at g5
    obtain ⟨b5, e5, w5⟩ := (rd_int Try.underlying24) _ _ _ g5
    obtain ⟨rfl, _⟩ := List.cons.inj (e5 : [c5] = [.int .u64 b5])
    have g6 := hf 6 _ rfl
    simp only [List.getElem_toArray, List.getElem_cons_zero, List.getElem_cons_succ] at g6
    rw [show Try.prog.cellsOf 4 = 1 from by kernel_rfl] at g6
    change DataW.trod enc Try.prog W 0 (fun _ => true) true n' 4 [c6] = ys[6]? at g6
    rw [List.getElem?_eq_getElem (by rw [hyl]; decide)] at g6
    obtain ⟨b6, e6, w6⟩ := (rd_bool Try.underlying4) _ _ _ g6
    obtain ⟨rfl, _⟩ := List.cons.inj (e6 : [c6] = [.bool b6])
    exact ⟨⟨b0, b1, b2, b3, b4, b5, b6⟩, k48_mk W ⟨b0, b1, b2, b3, b4, b5, b6⟩ l1 q1, w0, w1, w2, w3, w4, w5, w6⟩
instance : Inhabited S48 := ⟨z48⟩
theorem rd_48 {H : Type} {enc : TypeId × Value → H} {W : World} : RdT enc Try.prog W 48 k48 WF48 := by
  intro fuel cs x h
  exact rdv_48 h
set_option maxRecDepth 100000 in
theorem lifted (os : Os) (started : os.Started) (H : Type) (enc : TypeId × Value → H) :
    ReturnsInHanded {} Try.checked os 6 .any (Rows.supplyTextSpec.pre6 enc Try.prog Try.f6 Rows.supplyTextRow.domain false) (Rows.supplyTextSpec.post enc Try.prog Try.f6 false true false false) := by
  refine returnsInHanded_of_change_sized (C := Try.checked) own started (by kernel_rfl) Try.func6
    (ChangeSpec.witness6 (enc := enc) (C := Try.checked) false ⟨#[], #[.slice none 0 0, .slice none 0 0], []⟩ 8 (by kernel_rfl) (by kernel_rfl) (by kernel_rfl) (by kernel_rfl)) ?_
  intro W base args ds gs before hval0 hW hcnd hsz0 _
  have hsz : (DataW.weightsEach Try.prog (Try.f6.params.toList ++ Rows.supplyTextSpec.plain.varTypes Try.prog) (ds ++ gs)).all (· ≤ reachBytes) = true := hsz0
  have hval : ∀ (j : Nat) t v, Try.f6.params[j]? = some t → args[j]? = some v → Value.okWide Try.prog W .any base t v := hval0
  have hW' := hW
  obtain ⟨p, q, hA0, hV, rfl, hfz, hnd⟩ := hW
  have hA : DataW.TrodAll enc Try.prog W 0 (fun _ => true) true Try.f6.params.toList args.toList ds p := hA0
  rw [Try.params6] at hA hval hsz
  obtain ⟨v0, vs0, d0, ds0, p0, q0, hargs, rfl, rfl, h0, r0⟩ := trodAll_cons hA
  obtain ⟨v1, vs1, d1, ds1, p1, q1, rfl, rfl, rfl, h1, r1⟩ := trodAll_cons r0
  obtain ⟨rfl, rfl, rfl⟩ := trodAll_nil r1
  obtain rfl : args = #[v0, v1] := by cases args; simp_all
  obtain ⟨rfl, rfl⟩ := trodVars_none hV
  have k0 := h0
  have lt0 : ∀ x ∈ p0, x.block < W.heap.size := by obtain ⟨m, hm⟩ := k0; exact DataW.trod_lt m _ _ _ hm
  obtain ⟨A0, len0, cap0, rfl⟩ := okWide_slice Try.underlying22 (hval 0 22 v0 rfl rfl)
  obtain ⟨fu0, hf0⟩ := h0
  obtain ⟨l0, rfl, hC0, hc0, hw0, hm0, _⟩ := rd_row Try.underlying22 (by kernel_rfl) (rd_int Try.underlying5) (fuel := fu0) (by simpa [Value.cells] using hf0)
  have k1 := h1
  have lt1 : ∀ x ∈ p1, x.block < W.heap.size := by obtain ⟨m, hm⟩ := k1; exact DataW.trod_lt m _ _ _ hm
  obtain ⟨A1, len1, cap1, rfl⟩ := okWide_slice Try.underlying45 (hval 1 45 v1 rfl rfl)
  obtain ⟨fu1, hf1⟩ := h1
  obtain ⟨l1, rfl, hC1, hc1, hw1, hm1, _⟩ := rd_row Try.underlying45 (by kernel_rfl) rd_48 (fuel := fu1) (by simpa [Value.cells] using hf1)
  clear hA0 hval0 hsz0 hsz
  obtain ⟨k, hpure⟩ := Pure.SupplyText l0 l1 (Nat.le_trans hc0 hm0) hw0 (Nat.le_trans hc1 hm1) hw1
  refine (wigwaglaw18_SupplyText.calls k _ _ l0 _ _ l1 true W hC0 hc0 hC1 hc1 hpure).mono fun e W' ⟨he, hd⟩ => ?_
  have bel : Below W.heap.size W W' := hd
  subst he
  exact ⟨_, rfl, _, _, _, [], _, [], hW', trodAll_mk1 (shut_bool Try.underlying4 _), (trodAll_cons_mk (Below.trod laidOut (by kernel_rfl) (of_decide_eq_true (by kernel_rfl)) k0 bel lt0) (trodAll_cons_mk (Below.trod laidOut (by kernel_rfl) (of_decide_eq_true (by kernel_rfl)) k1 bel lt1) trodAll_mk0)), rfl, bel.frame _, fun h => by cases h⟩
theorem over : Rows.supplyTextRow.holds Try.pinned (OpenSpec.ofChange Rows.supplyTextSpec) :=
  OpenClaim.holds_of_wide 6 Try.f6 rfl rfl rfl rfl rfl rfl rfl ⟨rfl, rfl, rfl, rfl, rfl⟩ rfl rfl rfl rfl rfl (by kernel_rfl) Try.func6 (by kernel_rfl)
    (of_decide_eq_true (by kernel_rfl)) (by unfold Func.isWrapper; first | (rw [if_pos (by decide +kernel)]; kernel_rfl) | (rw [if_neg (by decide +kernel)]; exact ⟨rfl, rfl⟩))
    (fun os started H enc _ => lifted os started H enc)
end Go.Proofs.Ytadhkamocbhbmaa.supplyText
namespace Go.Proofs.Ytadhkamocbhbmaa
/-- The row, under a short name, for the claim. -/
theorem supplyText_holds : Rows.SupplyTextSaid := supplyText.over
end Go.Proofs.Ytadhkamocbhbmaa
#print axioms Go.Proofs.Ytadhkamocbhbmaa.supplyText_holds
