-- Printed for this claim by xprint.py of this session: contracts of this session's own stand in for what the print does not take
import Derived.Test.YtndfddejdfnleaaPx0
import Derived.Test.YtndfddejdfnleaaPx3
import Derived.Test.YtndfddejdfnleaaPx8
namespace Go.Proofs.Ytndfddejdfnleaa.P
open Go.RowKit Go.Proofs.YtndfddejdfnleaaW.PrintWords Go.Proofs.YtndfddejdfnleaaW.PrintLast Go.Proofs.YtndfddejdfnleaaW.PrintMore
attribute [local go_sem] max2_int min2_int max_two min_two max_three min_three max_four min_four   -- for this text's walks alone
set_option linter.unusedVariables false
set_option linter.unusedSimpArgs false

/-! ### gather_Put_err: function 10 -/
/-- Where bytes lie behind the size that was told: what came in, and the code. -/
def gather_Put_err.f (a0_0 : Int) (l0_1 : List S41) (l0_2 : List Int) (a0_3 : Bool) (a0_4 : Int) (a1 : Int) (l2 : List Int) (a3 : Bool) : Option (Int × List S41 × List Int × Bool × Int × Int) :=
  if 0 ≤ a1 ∧ a1 + (l2.length : Int) ≤ 1048576 ∧ l0_1.length < 1000000 ∧ l0_2.length < 1000000000 ∧ a0_3 = true ∧ a0_4 < a1 + (l2.length : Int) ∧ a3 = false then some (a0_0, l0_1, l0_2, true, a0_4, 6) else none
set_option maxHeartbeats 8000000 in
set_option maxRecDepth 100000 in
theorem gather_Put_err.calls (a0_0 : Int) (P0_1_ : Nat → Prop) (A0_1 : Option Addr) (c0_1 : Nat) (l0_1 : List S41) (P0_2_ : Nat → Prop) (A0_2 : Option Addr) (c0_2 : Nat) (l0_2 : List Int) (a0_3 : Bool) (a0_4 : Int) (a1 : Int) (A2 : Option Addr) (c2 : Nat) (l2 : List Int) (a3 : Bool) (r1 : Int) (r2 : List S41) (r3 : List Int) (r4 : Bool) (r5 : Int) (r6 : Int) (w : World)
    (hs0_1 : Kd.V k41 41 w w.heap.size (fun k_ => P0_1_ k_) (.slice A0_1 l0_1.length c0_1) l0_1) (hs0_2 : Kd.V (Kd.int .u8) 5 w w.heap.size (fun k_ => P0_2_ k_) (.slice A0_2 l0_2.length c0_2) l0_2) (hr2 : Kd.C (Kd.int .u8) w A2 l2.length l2) (hc2 : l2.length ≤ c2) (h : gather_Put_err.f a0_0 l0_1 l0_2 a0_3 a0_4 a1 l2 a3 = some (r1, r2, r3, r4, r5, r6)) :
    Calls Try.prog 10 #[.agg #[.int .u64 a0_0, .slice A0_1 l0_1.length c0_1, .slice A0_2 l0_2.length c0_2, .bool a0_3, .int .u64 a0_4], .int .u64 a1, .slice A2 l2.length c2, .bool a3] w fun e w' => ∃ v1_ v2_ : Value, e = .returned (.tuple #[.agg #[.int .u64 r1, v1_, v2_, .bool r4, .int .u64 r5], .int .i64 r6]) ∧ Kd.V k41 41 w' w.heap.size (fun k_ => ((P0_1_ k_ ∨ P0_2_ k_) ∨ w.heap.size ≤ k_)) v1_ r2 ∧ Kd.V (Kd.int .u8) 5 w' w.heap.size (fun k_ => ((P0_1_ k_ ∨ P0_2_ k_) ∨ w.heap.size ≤ k_)) v2_ r3 ∧ Below w.heap.size w w' := by
  unfold gather_Put_err.f at h
  by_cases g : 0 ≤ a1 ∧ a1 + (l2.length : Int) ≤ 1048576 ∧ l0_1.length < 1000000 ∧ l0_2.length < 1000000000 ∧ a0_3 = true ∧ a0_4 < a1 + (l2.length : Int) ∧ a3 = false
  case neg => rw [if_neg g] at h; cases h
  rw [if_pos g] at h
  obtain ⟨n0, n1, n2, n3, rfl, n4, rfl⟩ := g
  simp only [Option.some.injEq, Prod.mk.injEq] at h
  obtain ⟨rfl, rfl, rfl, rfl, rfl, rfl⟩ := h
  obtain ⟨e, he⟩ : ∃ e : Int, e = a1 + (l2.length : Int) := ⟨_, rfl⟩
  have HV1 := Aside0.mk hs0_1
  have HV2 := Aside0.mk hs0_2
  have HR1 := Aside0.mk (Kd.V_reads' hs0_1).2.2
  have HR2 := Aside0.mk (Kd.V_reads' hs0_2).2.2
  have HC1 := Aside0.mk (Kd.V_reads' hs0_1).2.1
  have HC2 := Aside0.mk (Kd.V_reads' hs0_2).2.1
  have HR3 := Aside0.mk hr2
  have HO := Aside0.mk (own_ok (show l0_1.length < 1000000000 by omega) n3 a0_0 true a0_4)
  have HB := Aside0.mk (Below.refl w.heap.size w)
  have t1 : decide (1048576 < a1) = false := decide_eq_false (by omega)
  have t2 : IntKind.u64.wrap (l2.length : Int) = (l2.length : Int) := by rw [IntKind.wrap_u64]; omega
  have t3 : IntKind.u64.wrap (a1 + (l2.length : Int)) = e := by rw [IntKind.wrap_u64]; omega
  have t4 : decide (1048576 < e) = false := decide_eq_false (by omega)
  have t5 : decide (a0_4 < e) = true := decide_eq_true (by omega)
  clear hs0_1 hs0_2 hr2 hc2 n0 n1 n2 n3 n4 he
  go_enter Try.func10, Try.ntmps10
  go_upto_block 0 with (first
    | ((with_reducible refine gate_dst (N := 4) rfl ?_); refine box_event ?hg (N := 4) ?hd (cs := #[.int .u64 a0_0, .slice A0_1 l0_1.length c0_1, .slice A0_2 l0_2.length c0_2, .bool true, .int .u64 a0_4]) (t := 28) ?hr ?_; (case hd => rfl); (case hg => rfl); (case hr => first | (go_simp; done) | (go_simp; rfl)); intro g4 hg w4 hbox hb; have GE_g4 := Aside0.mk (show w.heap.size ≤ g4 by rw [hg]; exact HB.out.size); have n1_ := Aside0.mk (below_step HB.out hb); clear HB; have HB := n1_; clear n1_; have BK_g4 := Aside0.mk hbox; clear hbox hb hg)
    | ((with_reducible refine gate_dst (N := 5) rfl ?_); refine box_event ?hg (N := 5) ?hd (cs := #[.int .u64 a1]) (t := 25) ?hr ?_; (case hd => rfl); (case hg => rfl); (case hr => first | (go_simp; done) | (go_simp; rfl)); intro g5 hg w5 hbox hb; have GE_g5 := Aside0.mk (show w.heap.size ≤ g5 by rw [hg]; exact HB.out.size); have NB_g4_g5 : g4 ≠ g5 := (by rw [hg]; exact Nat.ne_of_lt (blk_lt BK_g4.out)); have NB_g5_g4 := NB_g4_g5.symm; have n2_ := Aside0.mk (below_step HB.out hb); have n3_ := Aside0.mk (blk_below BK_g4.out hb); clear HB BK_g4; have HB := n2_; have BK_g4 := n3_; clear n2_ n3_; have BK_g5 := Aside0.mk hbox; clear hbox hb hg)
    | ((with_reducible refine gate_dst (N := 6) rfl ?_); refine box_event ?hg (N := 6) ?hd (cs := #[.slice A2 l2.length c2]) (t := 23) ?hr ?_; (case hd => rfl); (case hg => rfl); (case hr => first | (go_simp; done) | (go_simp; rfl)); intro g6 hg w6 hbox hb; have GE_g6 := Aside0.mk (show w.heap.size ≤ g6 by rw [hg]; exact HB.out.size); have NB_g4_g6 : g4 ≠ g6 := (by rw [hg]; exact Nat.ne_of_lt (blk_lt BK_g4.out)); have NB_g6_g4 := NB_g4_g6.symm; have NB_g5_g6 : g5 ≠ g6 := (by rw [hg]; exact Nat.ne_of_lt (blk_lt BK_g5.out)); have NB_g6_g5 := NB_g5_g6.symm; have n4_ := Aside0.mk (below_step HB.out hb); have n5_ := Aside0.mk (blk_below BK_g4.out hb); have n6_ := Aside0.mk (blk_below BK_g5.out hb); clear HB BK_g4 BK_g5; have HB := n4_; have BK_g4 := n5_; have BK_g5 := n6_; clear n4_ n5_ n6_; have BK_g6 := Aside0.mk hbox; clear hbox hb hg)
    | ((with_reducible refine gate_dst (N := 8) rfl ?_); refine box_event ?hg (N := 8) ?hd (cs := #[.int .u64 0, .slice none 0 0, .slice none 0 0, .bool false, .int .u64 0]) (t := 28) ?hr ?_; (case hd => rfl); (case hg => rfl); (case hr => first | (go_simp; done) | (go_simp; rfl)); intro g8 hg w8 hbox hb; have GE_g8 := Aside0.mk (show w.heap.size ≤ g8 by rw [hg]; exact HB.out.size); have NB_g4_g8 : g4 ≠ g8 := (by rw [hg]; exact Nat.ne_of_lt (blk_lt BK_g4.out)); have NB_g8_g4 := NB_g4_g8.symm; have NB_g5_g8 : g5 ≠ g8 := (by rw [hg]; exact Nat.ne_of_lt (blk_lt BK_g5.out)); have NB_g8_g5 := NB_g5_g8.symm; have NB_g6_g8 : g6 ≠ g8 := (by rw [hg]; exact Nat.ne_of_lt (blk_lt BK_g6.out)); have NB_g8_g6 := NB_g6_g8.symm; have n7_ := Aside0.mk (below_step HB.out hb); have n8_ := Aside0.mk (blk_below BK_g4.out hb); have n9_ := Aside0.mk (blk_below BK_g5.out hb); have n10_ := Aside0.mk (blk_below BK_g6.out hb); clear HB BK_g4 BK_g5 BK_g6; have HB := n7_; have BK_g4 := n8_; have BK_g5 := n9_; have BK_g6 := n10_; clear n7_ n8_ n9_ n10_; have BK_g8 := Aside0.mk hbox; clear hbox hb hg; have hx_g4_0 : w8.cell? ⟨g4, 0, none⟩ = some (.int .u64 a0_0) := (blk_cell BK_g4.out 0).trans rfl; have hf_g4_0 := blk_frozen BK_g4.out 0; have hx_g4_1 : w8.cell? ⟨g4, 1, none⟩ = some (.slice A0_1 l0_1.length c0_1) := (blk_cell BK_g4.out 1).trans rfl; have hf_g4_1 := blk_frozen BK_g4.out 1; have hx_g4_2 : w8.cell? ⟨g4, 2, none⟩ = some (.slice A0_2 l0_2.length c0_2) := (blk_cell BK_g4.out 2).trans rfl; have hf_g4_2 := blk_frozen BK_g4.out 2; have hx_g4_3 : w8.cell? ⟨g4, 3, none⟩ = some (.bool true) := (blk_cell BK_g4.out 3).trans rfl; have hf_g4_3 := blk_frozen BK_g4.out 3; have hx_g4_4 : w8.cell? ⟨g4, 4, none⟩ = some (.int .u64 a0_4) := (blk_cell BK_g4.out 4).trans rfl; have hf_g4_4 := blk_frozen BK_g4.out 4; have hx_g5_0 : w8.cell? ⟨g5, 0, none⟩ = some (.int .u64 a1) := (blk_cell BK_g5.out 0).trans rfl; have hf_g5_0 := blk_frozen BK_g5.out 0; have hx_g6_0 : w8.cell? ⟨g6, 0, none⟩ = some (.slice A2 l2.length c2) := (blk_cell BK_g6.out 0).trans rfl; have hf_g6_0 := blk_frozen BK_g6.out 0)
    | ((with_reducible refine gate_callee (f := 16) rfl ?_); refine goesL_ (some 38) rfl rfl Try.func16 (by kernel_rfl) rfl #[.agg #[.int .u64 a0_0, .slice A0_1 l0_1.length c0_1, .slice A0_2 l0_2.length c0_2, .bool true, .int .u64 a0_4]] rfl (by (try simp only [List.map_toArray, List.map_cons, List.map_nil]); first | done | rfl) ?_; (with_reducible refine (gather_own.calls a0_0 _ _ l0_1 _ _ l0_2 true a0_4 a0_0 l0_1 l0_2 true a0_4 _ (Kd.C_below HR1.out HB.out) HC1.out (Kd.C_below HR2.out HB.out) HC2.out HO.out).mono ?_); rintro e9 w9 ⟨v1, v2, rfl, ho1, ho2, hb⟩; refine ⟨_, rfl, ?_⟩; clear hx_g4_0 hf_g4_0 hx_g4_1 hf_g4_1 hx_g4_2 hf_g4_2 hx_g4_3 hf_g4_3 hx_g4_4 hf_g4_4 hx_g5_0 hf_g5_0 hx_g6_0 hf_g6_0; have O1 := Aside0.mk (Kd.R_lower ho1 HB.out.size); have O2 := Aside0.mk (Kd.R_lower ho2 HB.out.size); clear ho1 ho2; have n11_ := Aside0.mk (below_step HB.out hb); have n12_ := Aside0.mk (blk_below BK_g4.out hb); have n13_ := Aside0.mk (blk_below BK_g5.out hb); have n14_ := Aside0.mk (blk_below BK_g6.out hb); have n15_ := Aside0.mk (blk_below BK_g8.out hb); clear HB BK_g4 BK_g5 BK_g6 BK_g8; have HB := n11_; have BK_g4 := n12_; have BK_g5 := n13_; have BK_g6 := n14_; have BK_g8 := n15_; clear n11_ n12_ n13_ n14_ n15_; clear hb; obtain ⟨B1, d1, eo⟩ := Kd.R_slice O1.out; subst eo; obtain ⟨B2, d2, ep⟩ := Kd.R_slice O2.out; subst ep; clear O1 O2)
    | ((with_reducible refine gate_dst (N := 11) rfl ?_); refine box_event ?hg (N := 11) ?hd (cs := #[.int .u64 0, .slice none 0 0, .slice none 0 0, .bool false, .int .u64 0]) (t := 28) ?hr ?_; (case hd => rfl); (case hg => rfl); (case hr => first | (go_simp; done) | (go_simp; rfl)); intro g11 hg w11 hbox hb; have GE_g11 := Aside0.mk (show w.heap.size ≤ g11 by rw [hg]; exact HB.out.size); have NB_g4_g11 : g4 ≠ g11 := (by rw [hg]; exact Nat.ne_of_lt (blk_lt BK_g4.out)); have NB_g11_g4 := NB_g4_g11.symm; have NB_g5_g11 : g5 ≠ g11 := (by rw [hg]; exact Nat.ne_of_lt (blk_lt BK_g5.out)); have NB_g11_g5 := NB_g5_g11.symm; have NB_g6_g11 : g6 ≠ g11 := (by rw [hg]; exact Nat.ne_of_lt (blk_lt BK_g6.out)); have NB_g11_g6 := NB_g6_g11.symm; have NB_g8_g11 : g8 ≠ g11 := (by rw [hg]; exact Nat.ne_of_lt (blk_lt BK_g8.out)); have NB_g11_g8 := NB_g8_g11.symm; have n16_ := Aside0.mk (below_step HB.out hb); have n17_ := Aside0.mk (blk_below BK_g4.out hb); have n18_ := Aside0.mk (blk_below BK_g5.out hb); have n19_ := Aside0.mk (blk_below BK_g6.out hb); have n20_ := Aside0.mk (blk_below BK_g8.out hb); clear HB BK_g4 BK_g5 BK_g6 BK_g8; have HB := n16_; have BK_g4 := n17_; have BK_g5 := n18_; have BK_g6 := n19_; have BK_g8 := n20_; clear n16_ n17_ n18_ n19_ n20_; have BK_g11 := Aside0.mk hbox; clear hbox hb hg; have hx_g11_0 : w11.cell? ⟨g11, 0, none⟩ = some (.int .u64 0) := (blk_cell BK_g11.out 0).trans rfl; have hf_g11_0 := blk_frozen BK_g11.out 0; have hx_g11_1 : w11.cell? ⟨g11, 1, none⟩ = some (.slice none 0 0) := (blk_cell BK_g11.out 1).trans rfl; have hf_g11_1 := blk_frozen BK_g11.out 1; have hx_g11_2 : w11.cell? ⟨g11, 2, none⟩ = some (.slice none 0 0) := (blk_cell BK_g11.out 2).trans rfl; have hf_g11_2 := blk_frozen BK_g11.out 2; have hx_g11_3 : w11.cell? ⟨g11, 3, none⟩ = some (.bool false) := (blk_cell BK_g11.out 3).trans rfl; have hf_g11_3 := blk_frozen BK_g11.out 3; have hx_g11_4 : w11.cell? ⟨g11, 4, none⟩ = some (.int .u64 0) := (blk_cell BK_g11.out 4).trans rfl; have hf_g11_4 := blk_frozen BK_g11.out 4))
  clear hx_g11_0 hf_g11_0 hx_g11_1 hf_g11_1 hx_g11_2 hf_g11_2 hx_g11_3 hf_g11_3 hx_g11_4 hf_g11_4
  have n21_ : Aside0 ((((((w11.setCell ⟨g11, 0, none⟩ (.int .u64 a0_0)).setCell ⟨g11, 1, none⟩ (.slice B1 l0_1.length d1)).setCell ⟨g11, 2, none⟩ (.slice B2 l0_2.length d2)).setCell ⟨g11, 3, none⟩ (.bool true)).setCell ⟨g11, 4, none⟩ (.int .u64 a0_4)).heap[g11]? = some (.cells #[.int .u64 a0_0, .slice B1 l0_1.length d1, .slice B2 l0_2.length d2, .bool true, .int .u64 a0_4] 28 (0, 0))) := ⟨blk_put (blk_put (blk_put (blk_put (blk_put (BK_g11.out) 0 (.int .u64 a0_0) (cs' := #[.int .u64 a0_0, .slice none 0 0, .slice none 0 0, .bool false, .int .u64 0]) rfl) 1 (.slice B1 l0_1.length d1) (cs' := #[.int .u64 a0_0, .slice B1 l0_1.length d1, .slice none 0 0, .bool false, .int .u64 0]) rfl) 2 (.slice B2 l0_2.length d2) (cs' := #[.int .u64 a0_0, .slice B1 l0_1.length d1, .slice B2 l0_2.length d2, .bool false, .int .u64 0]) rfl) 3 (.bool true) (cs' := #[.int .u64 a0_0, .slice B1 l0_1.length d1, .slice B2 l0_2.length d2, .bool true, .int .u64 0]) rfl) 4 (.int .u64 a0_4) (cs' := #[.int .u64 a0_0, .slice B1 l0_1.length d1, .slice B2 l0_2.length d2, .bool true, .int .u64 a0_4]) rfl⟩
  have n22_ : Aside0 ((((((w11.setCell ⟨g11, 0, none⟩ (.int .u64 a0_0)).setCell ⟨g11, 1, none⟩ (.slice B1 l0_1.length d1)).setCell ⟨g11, 2, none⟩ (.slice B2 l0_2.length d2)).setCell ⟨g11, 3, none⟩ (.bool true)).setCell ⟨g11, 4, none⟩ (.int .u64 a0_4)).heap[g4]? = some (.cells #[.int .u64 a0_0, .slice A0_1 l0_1.length c0_1, .slice A0_2 l0_2.length c0_2, .bool true, .int .u64 a0_4] 28 (0, 0))) := ⟨blk_far (p := ⟨g11, 4, none⟩) (blk_far (p := ⟨g11, 3, none⟩) (blk_far (p := ⟨g11, 2, none⟩) (blk_far (p := ⟨g11, 1, none⟩) (blk_far (p := ⟨g11, 0, none⟩) (BK_g4.out) NB_g4_g11 (.int .u64 a0_0)) NB_g4_g11 (.slice B1 l0_1.length d1)) NB_g4_g11 (.slice B2 l0_2.length d2)) NB_g4_g11 (.bool true)) NB_g4_g11 (.int .u64 a0_4)⟩
  have n23_ : Aside0 ((((((w11.setCell ⟨g11, 0, none⟩ (.int .u64 a0_0)).setCell ⟨g11, 1, none⟩ (.slice B1 l0_1.length d1)).setCell ⟨g11, 2, none⟩ (.slice B2 l0_2.length d2)).setCell ⟨g11, 3, none⟩ (.bool true)).setCell ⟨g11, 4, none⟩ (.int .u64 a0_4)).heap[g5]? = some (.cells #[.int .u64 a1] 25 (0, 0))) := ⟨blk_far (p := ⟨g11, 4, none⟩) (blk_far (p := ⟨g11, 3, none⟩) (blk_far (p := ⟨g11, 2, none⟩) (blk_far (p := ⟨g11, 1, none⟩) (blk_far (p := ⟨g11, 0, none⟩) (BK_g5.out) NB_g5_g11 (.int .u64 a0_0)) NB_g5_g11 (.slice B1 l0_1.length d1)) NB_g5_g11 (.slice B2 l0_2.length d2)) NB_g5_g11 (.bool true)) NB_g5_g11 (.int .u64 a0_4)⟩
  have n24_ : Aside0 ((((((w11.setCell ⟨g11, 0, none⟩ (.int .u64 a0_0)).setCell ⟨g11, 1, none⟩ (.slice B1 l0_1.length d1)).setCell ⟨g11, 2, none⟩ (.slice B2 l0_2.length d2)).setCell ⟨g11, 3, none⟩ (.bool true)).setCell ⟨g11, 4, none⟩ (.int .u64 a0_4)).heap[g6]? = some (.cells #[.slice A2 l2.length c2] 23 (0, 0))) := ⟨blk_far (p := ⟨g11, 4, none⟩) (blk_far (p := ⟨g11, 3, none⟩) (blk_far (p := ⟨g11, 2, none⟩) (blk_far (p := ⟨g11, 1, none⟩) (blk_far (p := ⟨g11, 0, none⟩) (BK_g6.out) NB_g6_g11 (.int .u64 a0_0)) NB_g6_g11 (.slice B1 l0_1.length d1)) NB_g6_g11 (.slice B2 l0_2.length d2)) NB_g6_g11 (.bool true)) NB_g6_g11 (.int .u64 a0_4)⟩
  have n25_ : Aside0 ((((((w11.setCell ⟨g11, 0, none⟩ (.int .u64 a0_0)).setCell ⟨g11, 1, none⟩ (.slice B1 l0_1.length d1)).setCell ⟨g11, 2, none⟩ (.slice B2 l0_2.length d2)).setCell ⟨g11, 3, none⟩ (.bool true)).setCell ⟨g11, 4, none⟩ (.int .u64 a0_4)).heap[g8]? = some (.cells #[.int .u64 0, .slice none 0 0, .slice none 0 0, .bool false, .int .u64 0] 28 (0, 0))) := ⟨blk_far (p := ⟨g11, 4, none⟩) (blk_far (p := ⟨g11, 3, none⟩) (blk_far (p := ⟨g11, 2, none⟩) (blk_far (p := ⟨g11, 1, none⟩) (blk_far (p := ⟨g11, 0, none⟩) (BK_g8.out) NB_g8_g11 (.int .u64 a0_0)) NB_g8_g11 (.slice B1 l0_1.length d1)) NB_g8_g11 (.slice B2 l0_2.length d2)) NB_g8_g11 (.bool true)) NB_g8_g11 (.int .u64 a0_4)⟩
  have n26_ : Aside0 (Below w.heap.size w (((((w11.setCell ⟨g11, 0, none⟩ (.int .u64 a0_0)).setCell ⟨g11, 1, none⟩ (.slice B1 l0_1.length d1)).setCell ⟨g11, 2, none⟩ (.slice B2 l0_2.length d2)).setCell ⟨g11, 3, none⟩ (.bool true)).setCell ⟨g11, 4, none⟩ (.int .u64 a0_4))) := ⟨below_set (below_set (below_set (below_set (below_set (HB.out) GE_g11.out (j := 0) (v := .int .u64 a0_0)) GE_g11.out (j := 1) (v := .slice B1 l0_1.length d1)) GE_g11.out (j := 2) (v := .slice B2 l0_2.length d2)) GE_g11.out (j := 3) (v := .bool true)) GE_g11.out (j := 4) (v := .int .u64 a0_4)⟩
  clear BK_g11 BK_g4 BK_g5 BK_g6 BK_g8 HB
  have BK_g11 := n21_
  have BK_g4 := n22_
  have BK_g5 := n23_
  have BK_g6 := n24_
  have BK_g8 := n25_
  have HB := n26_
  clear n21_ n22_ n23_ n24_ n25_ n26_
  generalize (((((w11.setCell ⟨g11, 0, none⟩ (.int .u64 a0_0)).setCell ⟨g11, 1, none⟩ (.slice B1 l0_1.length d1)).setCell ⟨g11, 2, none⟩ (.slice B2 l0_2.length d2)).setCell ⟨g11, 3, none⟩ (.bool true)).setCell ⟨g11, 4, none⟩ (.int .u64 a0_4)) = w12 at BK_g11 BK_g4 BK_g5 BK_g6 BK_g8 HB ⊢
  have hx_g4_0 : w12.cell? ⟨g4, 0, none⟩ = some (.int .u64 a0_0) := (blk_cell BK_g4.out 0).trans rfl
  have hf_g4_0 := blk_frozen BK_g4.out 0
  have hx_g4_1 : w12.cell? ⟨g4, 1, none⟩ = some (.slice A0_1 l0_1.length c0_1) := (blk_cell BK_g4.out 1).trans rfl
  have hf_g4_1 := blk_frozen BK_g4.out 1
  have hx_g4_2 : w12.cell? ⟨g4, 2, none⟩ = some (.slice A0_2 l0_2.length c0_2) := (blk_cell BK_g4.out 2).trans rfl
  have hf_g4_2 := blk_frozen BK_g4.out 2
  have hx_g4_3 : w12.cell? ⟨g4, 3, none⟩ = some (.bool true) := (blk_cell BK_g4.out 3).trans rfl
  have hf_g4_3 := blk_frozen BK_g4.out 3
  have hx_g4_4 : w12.cell? ⟨g4, 4, none⟩ = some (.int .u64 a0_4) := (blk_cell BK_g4.out 4).trans rfl
  have hf_g4_4 := blk_frozen BK_g4.out 4
  have hx_g8_0 : w12.cell? ⟨g8, 0, none⟩ = some (.int .u64 0) := (blk_cell BK_g8.out 0).trans rfl
  have hf_g8_0 := blk_frozen BK_g8.out 0
  have hx_g8_1 : w12.cell? ⟨g8, 1, none⟩ = some (.slice none 0 0) := (blk_cell BK_g8.out 1).trans rfl
  have hf_g8_1 := blk_frozen BK_g8.out 1
  have hx_g8_2 : w12.cell? ⟨g8, 2, none⟩ = some (.slice none 0 0) := (blk_cell BK_g8.out 2).trans rfl
  have hf_g8_2 := blk_frozen BK_g8.out 2
  have hx_g8_3 : w12.cell? ⟨g8, 3, none⟩ = some (.bool false) := (blk_cell BK_g8.out 3).trans rfl
  have hf_g8_3 := blk_frozen BK_g8.out 3
  have hx_g8_4 : w12.cell? ⟨g8, 4, none⟩ = some (.int .u64 0) := (blk_cell BK_g8.out 4).trans rfl
  have hf_g8_4 := blk_frozen BK_g8.out 4
  go_wp2
  refine bodyPost_ret (results_ct rfl _ _ g8 28 #[.int .u64 a0_0, .slice A0_1 l0_1.length c0_1, .slice A0_2 l0_2.length c0_2, .bool true, .int .u64 a0_4] (0, 0) _ rfl (blk_put5 BK_g8.out) Try.underlying28 rfl (by kernel_rfl)) rfl ?_
  have hbw := below_set5 (a0 := .int .u64 a0_0) (a1 := .slice A0_1 l0_1.length c0_1) (a2 := .slice A0_2 l0_2.length c0_2) (a3 := .bool true) (a4 := .int .u64 a0_4) HB.out GE_g8.out
  exact ⟨_, _, rfl, Kd.V_mono (Kd.V_below HV1.out hbw) (fun k hk => .inl (.inl hk)), Kd.V_mono (Kd.V_below HV2.out hbw) (fun k hk => .inl (.inr hk)), hbw⟩

end Go.Proofs.Ytndfddejdfnleaa.P
