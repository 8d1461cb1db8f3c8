-- Printed for this claim by xprint.py of this session: contracts of this session's own stand in for what the print does not take
import Derived.Test.YtidpokbgdfjbnaaPx0
import Derived.Test.YtidpokbgdfjbnaaPx12
namespace Go.Proofs.Ytidpokbgdfjbnaa.P
open Go.RowKit Go.Proofs.YtidpokbgdfjbnaaW.PrintWords Go.Proofs.YtidpokbgdfjbnaaW.PrintLast Go.Proofs.YtidpokbgdfjbnaaW.PrintMore
attribute [local go_sem] max2_int min2_int max_two min_two max_three min_three max_four min_four   -- for this text's walks alone
set_option linter.unusedVariables false
set_option linter.unusedSimpArgs false

/-! ### wigwagref08_Late: function 14 -/
def wigwagref08_Late.f (a0_0 : Bool) (a0_1 : Int) (a0_2 : Int) (a0_3 : Int) (a0_4 : Int) : Option (Int) := (wigwagref08_greater.f a0_3 a0_1).bind fun t200 => (if a0_0 = true then ((wigwagref01_Add.f t200 (IntKind.u64.wrap (Int.tdiv t200 8))).bind fun t201 => ((wigwagref08_greater.f t201 1).bind fun t202 => (some t202))) else ((wigwagref01_Add.f 333 ((333 : Int) / 8)).bind fun t203 => ((wigwagref08_greater.f t203 1).bind fun t204 => (some t204))))
set_option maxHeartbeats 8000000 in
set_option maxRecDepth 100000 in
theorem wigwagref08_Late.calls (a0_0 : Bool) (a0_1 : Int) (a0_2 : Int) (a0_3 : Int) (a0_4 : Int) (r : Int) (w : World) (h : wigwagref08_Late.f a0_0 a0_1 a0_2 a0_3 a0_4 = some r) :
    Calls Try.prog 14 #[.agg #[.bool a0_0, .int .u64 a0_1, .int .u64 a0_2, .int .u64 a0_3, .int .u64 a0_4]] w fun e w' => e = .returned (.int .u64 r) ∧ Below w.heap.size w w' := by
  have hu24 := Try.underlying24
  have HB := Aside0.mk (Below.refl w.heap.size w)
  have H : ((wigwagref08_greater.f a0_3 a0_1).bind fun t200 => (if a0_0 = true then ((wigwagref01_Add.f t200 (IntKind.u64.wrap (Int.tdiv t200 8))).bind fun t201 => ((wigwagref08_greater.f t201 1).bind fun t202 => (some t202))) else ((wigwagref01_Add.f 333 ((333 : Int) / 8)).bind fun t203 => ((wigwagref08_greater.f t203 1).bind fun t204 => (some t204))))) = some r := h
  clear h
  replace H := Option.bind_eq_some_iff.mp H
  obtain ⟨t200, A20, H⟩ := H
  replace H : (if a0_0 = true then ((wigwagref01_Add.f t200 (IntKind.u64.wrap (Int.tdiv t200 8))).bind fun t201 => ((wigwagref08_greater.f t201 1).bind fun t202 => (some t202))) else ((wigwagref01_Add.f 333 ((333 : Int) / 8)).bind fun t203 => ((wigwagref08_greater.f t203 1).bind fun t204 => (some t204)))) = some r := H
  have A2 := Aside0.mk A20
  clear A20
  by_cases c3 : a0_0 = true
  · subst c3
    have H1 : ((wigwagref01_Add.f t200 (IntKind.u64.wrap (Int.tdiv t200 8))).bind fun t201 => ((wigwagref08_greater.f t201 1).bind fun t202 => (some t202))) = some r := by rw [if_pos rfl] at H; exact H
    clear H
    have H := H1
    clear H1
    replace H := Option.bind_eq_some_iff.mp H
    obtain ⟨t201, A40, H⟩ := H
    replace H : ((wigwagref08_greater.f t201 1).bind fun t202 => (some t202)) = some r := H
    have A4 := Aside0.mk A40
    clear A40
    replace H := Option.bind_eq_some_iff.mp H
    obtain ⟨t202, A50, H⟩ := H
    replace H : (some t202) = some r := H
    have A5 := Aside0.mk A50
    clear A50
    obtain rfl := Option.some.inj H
    go_enter Try.func14, Try.ntmps14
    go_wp2_with (first | ((with_reducible refine gate_dst (N := 1) rfl ?_); refine box_event ?hg (N := 1) ?hd (cs := #[.bool true, .int .u64 a0_1, .int .u64 a0_2, .int .u64 a0_3, .int .u64 a0_4]) (t := 24) ?hr ?_; (case hd => rfl); (case hg => rfl); (case hr => first | (go_simp; done) | (go_simp; rfl)); intro gb199 hg w6 hbox hb; have n0_ := Aside0.mk (below_step (by repeat (first | (with_reducible first | exact HB.out | apply below_alloc | apply pw_below_drewN | apply below_drew1) | exact HB.out)) hb); have n1_ := Aside0.mk (hbox); have n2_ := Aside0.mk ((by rw [hg]; exact (below_size (by repeat (first | (with_reducible first | exact HB.out | apply below_alloc | apply pw_below_drewN | apply below_drew1) | exact HB.out))) : w.heap.size ≤ gb199)); have n3_ := Aside0.mk ((by rw [hg]; exact (below_size (by repeat (first | (with_reducible first | exact HB.out | apply below_alloc | apply pw_below_drewN | apply below_drew1) | exact HB.out))) : w.heap.size ≤ gb199)); clear HB; have HB := n0_; have BK199 := n1_; have GW199 := n2_; have GE199 := n3_; clear n0_ n1_ n2_ n3_; clear hb hbox hg; have hcz7_0 : w6.cell? ⟨gb199, 0, none⟩ = some (.bool true) := (blk_cell BK199.out 0).trans rfl; have hcz7_1 : w6.cell? ⟨gb199, 1, none⟩ = some (.int .u64 a0_1) := (blk_cell BK199.out 1).trans rfl; have hcz7_2 : w6.cell? ⟨gb199, 2, none⟩ = some (.int .u64 a0_2) := (blk_cell BK199.out 2).trans rfl; have hcz7_3 : w6.cell? ⟨gb199, 3, none⟩ = some (.int .u64 a0_3) := (blk_cell BK199.out 3).trans rfl; have hcz7_4 : w6.cell? ⟨gb199, 4, none⟩ = some (.int .u64 a0_4) := (blk_cell BK199.out 4).trans rfl; have hfz7_0 := blk_frozen BK199.out 0; have hfz7_1 := blk_frozen BK199.out 1; have hfz7_2 := blk_frozen BK199.out 2; have hfz7_3 := blk_frozen BK199.out 3; have hfz7_4 := blk_frozen BK199.out 4) | ((with_reducible refine gate_callee (f := 19) rfl ?_); refine goesL_ (some 8) rfl rfl Try.func19 (by kernel_rfl) rfl #[.int .u64 a0_3, .int .u64 a0_1] rfl (by (try simp only [List.map_toArray, List.map_cons, List.map_nil]); first | done | rfl | (simp only [List.length_drop, List.length_take]; rfl)) ?_; (with_reducible refine (wigwagref08_greater.calls a0_3 a0_1 t200 _ A2.out).mono ?_); rintro e w' ⟨rfl, ⟨nd, rfl⟩⟩; refine ⟨_, rfl, ?_⟩) | ((with_reducible refine gate_callee (f := 18) rfl ?_); refine goesL_ (some 15) rfl rfl Try.func18 (by kernel_rfl) rfl #[.int .u64 t200, .int .u64 (IntKind.u64.wrap (Int.tdiv t200 8))] rfl (by (try simp only [List.map_toArray, List.map_cons, List.map_nil]); first | done | rfl | (simp only [List.length_drop, List.length_take]; rfl)) ?_; (with_reducible refine (wigwagref01_Add.calls t200 (IntKind.u64.wrap (Int.tdiv t200 8)) t201 _ A4.out).mono ?_); rintro e w' ⟨rfl, ⟨nd, rfl⟩⟩; refine ⟨_, rfl, ?_⟩) | ((with_reducible refine gate_callee (f := 19) rfl ?_); refine goesL_ (some 16) rfl rfl Try.func19 (by kernel_rfl) rfl #[.int .u64 t201, .int .u64 1] rfl (by (try simp only [List.map_toArray, List.map_cons, List.map_nil]); first | done | rfl | (simp only [List.length_drop, List.length_take]; rfl)) ?_; (with_reducible refine (wigwagref08_greater.calls t201 1 t202 _ A5.out).mono ?_); rintro e w' ⟨rfl, ⟨nd, rfl⟩⟩; refine ⟨_, rfl, ?_⟩))
    go_ret
    exact ⟨by first | rfl | (simp [errW_none, errW_some] <;> rfl) | (simp [*, errW_none, errW_some] <;> rfl), by repeat (first | (with_reducible first | exact HB.out | apply below_alloc | apply pw_below_drewN | apply below_drew1 | refine below_set ?_ GE199.out) | exact HB.out)⟩
  · replace c3 := Bool.eq_false_iff.mpr c3
    subst c3
    have H1 : ((wigwagref01_Add.f 333 ((333 : Int) / 8)).bind fun t203 => ((wigwagref08_greater.f t203 1).bind fun t204 => (some t204))) = some r := by rw [if_neg (show ¬ (false = true) by decide)] at H; exact H
    clear H
    have H := H1
    clear H1
    replace H := Option.bind_eq_some_iff.mp H
    obtain ⟨t203, A80, H⟩ := H
    replace H : ((wigwagref08_greater.f t203 1).bind fun t204 => (some t204)) = some r := H
    have A8 := Aside0.mk A80
    clear A80
    replace H := Option.bind_eq_some_iff.mp H
    obtain ⟨t204, A90, H⟩ := H
    replace H : (some t204) = some r := H
    have A9 := Aside0.mk A90
    clear A90
    obtain rfl := Option.some.inj H
    go_enter Try.func14, Try.ntmps14
    go_wp2_with (first | ((with_reducible refine gate_dst (N := 1) rfl ?_); refine box_event ?hg (N := 1) ?hd (cs := #[.bool false, .int .u64 a0_1, .int .u64 a0_2, .int .u64 a0_3, .int .u64 a0_4]) (t := 24) ?hr ?_; (case hd => rfl); (case hg => rfl); (case hr => first | (go_simp; done) | (go_simp; rfl)); intro gb199 hg w10 hbox hb; have n0_ := Aside0.mk (below_step (by repeat (first | (with_reducible first | exact HB.out | apply below_alloc | apply pw_below_drewN | apply below_drew1) | exact HB.out)) hb); have n1_ := Aside0.mk (hbox); have n2_ := Aside0.mk ((by rw [hg]; exact (below_size (by repeat (first | (with_reducible first | exact HB.out | apply below_alloc | apply pw_below_drewN | apply below_drew1) | exact HB.out))) : w.heap.size ≤ gb199)); have n3_ := Aside0.mk ((by rw [hg]; exact (below_size (by repeat (first | (with_reducible first | exact HB.out | apply below_alloc | apply pw_below_drewN | apply below_drew1) | exact HB.out))) : w.heap.size ≤ gb199)); clear HB; have HB := n0_; have BK199 := n1_; have GW199 := n2_; have GE199 := n3_; clear n0_ n1_ n2_ n3_; clear hb hbox hg; have hcz11_0 : w10.cell? ⟨gb199, 0, none⟩ = some (.bool false) := (blk_cell BK199.out 0).trans rfl; have hcz11_1 : w10.cell? ⟨gb199, 1, none⟩ = some (.int .u64 a0_1) := (blk_cell BK199.out 1).trans rfl; have hcz11_2 : w10.cell? ⟨gb199, 2, none⟩ = some (.int .u64 a0_2) := (blk_cell BK199.out 2).trans rfl; have hcz11_3 : w10.cell? ⟨gb199, 3, none⟩ = some (.int .u64 a0_3) := (blk_cell BK199.out 3).trans rfl; have hcz11_4 : w10.cell? ⟨gb199, 4, none⟩ = some (.int .u64 a0_4) := (blk_cell BK199.out 4).trans rfl; have hfz11_0 := blk_frozen BK199.out 0; have hfz11_1 := blk_frozen BK199.out 1; have hfz11_2 := blk_frozen BK199.out 2; have hfz11_3 := blk_frozen BK199.out 3; have hfz11_4 := blk_frozen BK199.out 4) | ((with_reducible refine gate_callee (f := 19) rfl ?_); refine goesL_ (some 8) rfl rfl Try.func19 (by kernel_rfl) rfl #[.int .u64 a0_3, .int .u64 a0_1] rfl (by (try simp only [List.map_toArray, List.map_cons, List.map_nil]); first | done | rfl | (simp only [List.length_drop, List.length_take]; rfl)) ?_; (with_reducible refine (wigwagref08_greater.calls a0_3 a0_1 t200 _ A2.out).mono ?_); rintro e w' ⟨rfl, ⟨nd, rfl⟩⟩; refine ⟨_, rfl, ?_⟩) | ((with_reducible refine gate_callee (f := 18) rfl ?_); refine goesL_ (some 15) rfl rfl Try.func18 (by kernel_rfl) rfl #[.int .u64 333, .int .u64 ((333 : Int) / 8)] rfl (by (try simp only [List.map_toArray, List.map_cons, List.map_nil]); first | done | rfl | (simp only [List.length_drop, List.length_take]; rfl)) ?_; (with_reducible refine (wigwagref01_Add.calls 333 ((333 : Int) / 8) t203 _ A8.out).mono ?_); rintro e w' ⟨rfl, ⟨nd, rfl⟩⟩; refine ⟨_, rfl, ?_⟩) | ((with_reducible refine gate_callee (f := 19) rfl ?_); refine goesL_ (some 16) rfl rfl Try.func19 (by kernel_rfl) rfl #[.int .u64 t203, .int .u64 1] rfl (by (try simp only [List.map_toArray, List.map_cons, List.map_nil]); first | done | rfl | (simp only [List.length_drop, List.length_take]; rfl)) ?_; (with_reducible refine (wigwagref08_greater.calls t203 1 t204 _ A9.out).mono ?_); rintro e w' ⟨rfl, ⟨nd, rfl⟩⟩; refine ⟨_, rfl, ?_⟩))
    go_ret
    exact ⟨by first | rfl | (simp [errW_none, errW_some] <;> rfl) | (simp [*, errW_none, errW_some] <;> rfl), by repeat (first | (with_reducible first | exact HB.out | apply below_alloc | apply pw_below_drewN | apply below_drew1 | refine below_set ?_ GE199.out) | exact HB.out)⟩

end Go.Proofs.Ytidpokbgdfjbnaa.P
