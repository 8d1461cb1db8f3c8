-- Printed for this claim by xprint.py of this session: contracts of this session's own stand in for what the print does not take
import Derived.Test.YtgfmmbgljbabbaaPx0
import Derived.Test.YtgfmmbgljbabbaaPx6
namespace Go.Proofs.Ytgfmmbgljbabbaa.P
open Go.RowKit Go.Proofs.YtgfmmbgljbabbaaW.PrintWords Go.Proofs.YtgfmmbgljbabbaaW.PrintLast Go.Proofs.YtgfmmbgljbabbaaW.PrintMore
attribute [local go_sem] max2_int min2_int max_two min_two max_three min_three max_four min_four   -- for this text's walks alone
set_option linter.unusedVariables false
set_option linter.unusedSimpArgs false

/-! ### wigwaglaw19_CreditNames: function 3 -/
def wigwaglaw19_CreditNames.f  : Option (Bool) := (wigwaglaw19_awake.f).bind fun t206 => (if t206 = true then (some true) else (some false))
set_option maxHeartbeats 8000000 in
set_option maxRecDepth 100000 in
theorem wigwaglaw19_CreditNames.calls  (r : Bool) (w : World) (h : wigwaglaw19_CreditNames.f  = some r) :
    Calls Try.prog 3 #[] w fun e w' => e = .returned (.bool r) ∧ Below w.heap.size w w' := by
  have HB := Aside0.mk (Below.refl w.heap.size w)
  have H : ((wigwaglaw19_awake.f).bind fun t206 => (if t206 = true then (some true) else (some false))) = some r := h
  clear h
  replace H := Option.bind_eq_some_iff.mp H
  obtain ⟨t206, A10, H⟩ := H
  replace H : (if t206 = true then (some true) else (some false)) = some r := H
  have A1 := Aside0.mk A10
  clear A10
  by_cases c2 : t206 = true
  · subst c2
    have H1 : (some true) = some r := by rw [if_pos rfl] at H; exact H
    clear H
    have H := H1
    clear H1
    obtain rfl := Option.some.inj H
    go_enter Try.func3, Try.ntmps3
    go_wp2_with (first | ((with_reducible refine gate_callee (f := 9) rfl ?_); refine goesL_ (some 2) rfl rfl Try.func9 (by kernel_rfl) rfl #[] rfl (by (try simp only [List.map_toArray, List.map_cons, List.map_nil]); first | done | rfl | (simp only [List.length_drop, List.length_take]; rfl)) ?_; (with_reducible refine (wigwaglaw19_awake.calls  true _ A1.out).mono ?_); rintro e w3 ⟨rfl, hb⟩; refine ⟨_, rfl, ?_⟩; have n0_ := Aside0.mk (below_step (by repeat (first | (with_reducible first | exact HB.out | apply below_alloc | apply pw_below_drewN | apply below_drew1) | exact HB.out)) hb); clear HB; have HB := n0_; clear n0_; (try clear hb); (try clear hb2); (try clear hk); (try clear hi)))
    go_ret
    exact ⟨by first | rfl | (simp [errW_none, errW_some] <;> rfl) | (simp [*, errW_none, errW_some] <;> rfl), by repeat (first | (with_reducible first | exact HB.out | apply below_alloc | apply pw_below_drewN | apply below_drew1) | exact HB.out)⟩
  · replace c2 := Bool.eq_false_iff.mpr c2
    subst c2
    have H1 : (some false) = some r := by rw [if_neg (show ¬ (false = true) by decide)] at H; exact H
    clear H
    have H := H1
    clear H1
    obtain rfl := Option.some.inj H
    go_enter Try.func3, Try.ntmps3
    go_wp2_with (first | ((with_reducible refine gate_callee (f := 9) rfl ?_); refine goesL_ (some 2) rfl rfl Try.func9 (by kernel_rfl) rfl #[] rfl (by (try simp only [List.map_toArray, List.map_cons, List.map_nil]); first | done | rfl | (simp only [List.length_drop, List.length_take]; rfl)) ?_; (with_reducible refine (wigwaglaw19_awake.calls  false _ A1.out).mono ?_); rintro e w4 ⟨rfl, hb⟩; refine ⟨_, rfl, ?_⟩; have n0_ := Aside0.mk (below_step (by repeat (first | (with_reducible first | exact HB.out | apply below_alloc | apply pw_below_drewN | apply below_drew1) | exact HB.out)) hb); clear HB; have HB := n0_; clear n0_; (try clear hb); (try clear hb2); (try clear hk); (try clear hi)))
    go_ret
    exact ⟨by first | rfl | (simp [errW_none, errW_some] <;> rfl) | (simp [*, errW_none, errW_some] <;> rfl), by repeat (first | (with_reducible first | exact HB.out | apply below_alloc | apply pw_below_drewN | apply below_drew1) | exact HB.out)⟩

/-- THE ONE PURE STATEMENT of wigwaglaw19_CreditNames: yours. -/
def wigwaglaw19_CreditNames.Pure : Prop := wigwaglaw19_CreditNames.f  = some true
theorem wigwaglaw19_CreditNames.walk (P : wigwaglaw19_CreditNames.Pure)  (w : World)  :
    Calls Try.prog 3 #[] w fun e w' => e = .returned (.bool true) ∧ Below w.heap.size w w' := by
  have h := P  
  refine (wigwaglaw19_CreditNames.calls  true w h).mono ?_
  rintro e w' ⟨rfl, hd⟩
  exact ⟨rfl, hd⟩

-- NOT PRINTED: function 7 (wigwaglaw19_CreditRaises)

/-! ### wigwaglaw19_CreditStreams: function 8 -/
def wigwaglaw19_CreditStreams.f (a0 : Int) (a1 : Int) : Option (Bool) := (wigwaglaw19_awake.f).bind fun t233 => ((credit_Stream.f a0 a1).bind fun t234 => (if t233 = true then (if (Int.tmod a0 4) = 0 then (if ((t234 == 0) == (decide ((IntKind.u64.wrap (Int.tdiv a0 4)) < a1))) = true then (some ((t234 == 5) == ((Int.tmod a0 4) != 0))) else (some false)) else (if ((t234 == 0) == false) = true then (some ((t234 == 5) == ((Int.tmod a0 4) != 0))) else (some false))) else (some false)))
set_option maxHeartbeats 8000000 in
set_option maxRecDepth 100000 in
theorem wigwaglaw19_CreditStreams.calls (a0 : Int) (a1 : Int) (r : Bool) (w : World) (h : wigwaglaw19_CreditStreams.f a0 a1 = some r) :
    Calls Try.prog 8 #[.int .u64 a0, .int .u64 a1] w fun e w' => e = .returned (.bool r) ∧ Below w.heap.size w w' := by
  have HB := Aside0.mk (Below.refl w.heap.size w)
  have H : ((wigwaglaw19_awake.f).bind fun t233 => ((credit_Stream.f a0 a1).bind fun t234 => (if t233 = true then (if (Int.tmod a0 4) = 0 then (if ((t234 == 0) == (decide ((IntKind.u64.wrap (Int.tdiv a0 4)) < a1))) = true then (some ((t234 == 5) == ((Int.tmod a0 4) != 0))) else (some false)) else (if ((t234 == 0) == false) = true then (some ((t234 == 5) == ((Int.tmod a0 4) != 0))) else (some false))) else (some false)))) = some r := h
  clear h
  replace H := Option.bind_eq_some_iff.mp H
  obtain ⟨t233, A30, H⟩ := H
  replace H : ((credit_Stream.f a0 a1).bind fun t234 => (if t233 = true then (if (Int.tmod a0 4) = 0 then (if ((t234 == 0) == (decide ((IntKind.u64.wrap (Int.tdiv a0 4)) < a1))) = true then (some ((t234 == 5) == ((Int.tmod a0 4) != 0))) else (some false)) else (if ((t234 == 0) == false) = true then (some ((t234 == 5) == ((Int.tmod a0 4) != 0))) else (some false))) else (some false))) = some r := H
  have A3 := Aside0.mk A30
  clear A30
  replace H := Option.bind_eq_some_iff.mp H
  obtain ⟨t234, A40, H⟩ := H
  replace H : (if t233 = true then (if (Int.tmod a0 4) = 0 then (if ((t234 == 0) == (decide ((IntKind.u64.wrap (Int.tdiv a0 4)) < a1))) = true then (some ((t234 == 5) == ((Int.tmod a0 4) != 0))) else (some false)) else (if ((t234 == 0) == false) = true then (some ((t234 == 5) == ((Int.tmod a0 4) != 0))) else (some false))) else (some false)) = some r := H
  have A4 := Aside0.mk A40
  clear A40
  have HS5 := Aside0.mk H
  clear H
  go_enter Try.func8, Try.ntmps8
  go_upto_region 3 with (first | ((with_reducible refine gate_callee (f := 9) rfl ?_); refine goesL_ (some 7) rfl rfl Try.func9 (by kernel_rfl) rfl #[] rfl (by (try simp only [List.map_toArray, List.map_cons, List.map_nil]); first | done | rfl | (simp only [List.length_drop, List.length_take]; rfl)) ?_; (with_reducible refine (wigwaglaw19_awake.calls  t233 _ A3.out).mono ?_); rintro e w6 ⟨rfl, hb⟩; refine ⟨_, rfl, ?_⟩; have n0_ := Aside0.mk (below_step (by repeat (first | (with_reducible first | exact HB.out | apply below_alloc | apply pw_below_drewN | apply below_drew1) | exact HB.out)) hb); clear HB; have HB := n0_; clear n0_; (try clear hb); (try clear hb2); (try clear hk); (try clear hi)) | ((with_reducible refine gate_callee (f := 22) rfl ?_); refine goesL_ (some 10) rfl rfl Try.func22 (by kernel_rfl) rfl #[.int .u64 a0, .int .u64 a1] rfl (by (try simp only [List.map_toArray, List.map_cons, List.map_nil]); first | done | rfl | (simp only [List.length_drop, List.length_take]; rfl)) ?_; (with_reducible refine (credit_Stream.calls a0 a1 t234 _ A4.out).mono ?_); rintro e w' ⟨rfl, ⟨nd, rfl⟩⟩; refine ⟨_, rfl, ?_⟩))
  (try simp only [Act.put, List.setIfInBounds_toArray, List.set_cons_zero, List.set_cons_succ])
  have H := HS5.out
  clear HS5
  by_cases c7 : t233 = true
  · subst c7
    have H1 : (if (Int.tmod a0 4) = 0 then (if ((t234 == 0) == (decide ((IntKind.u64.wrap (Int.tdiv a0 4)) < a1))) = true then (some ((t234 == 5) == ((Int.tmod a0 4) != 0))) else (some false)) else (if ((t234 == 0) == false) = true then (some ((t234 == 5) == ((Int.tmod a0 4) != 0))) else (some false))) = some r := by rw [if_pos rfl] at H; exact H
    clear H
    have H := H1
    clear H1
    by_cases c8 : (Int.tmod a0 4) = 0
    · rw [if_pos c8] at H
      have c8b0 : ((Int.tmod a0 4) == 0) = true := beq_iff_eq.mpr c8
      have c8b1 : ((Int.tmod a0 4) != 0) = false := bne_eq_false_iff_eq.mpr c8
      clear c8
      by_cases c9 : ((t234 == 0) == (decide ((IntKind.u64.wrap (Int.tdiv a0 4)) < a1))) = true
      · rw [if_pos c9] at H
        have c9b0 : ((t234 == 0) == (decide ((IntKind.u64.wrap (Int.tdiv a0 4)) < a1))) = true := c9
        (try (have c9b1 : decide ((t234 == 0) = (decide ((IntKind.u64.wrap (Int.tdiv a0 4)) < a1))) = true := by simpa using c9))
        (try (have c9b2 : ((t234 == 0) == (decide ((IntKind.u64.wrap (Int.tdiv a0 4)) < a1))) = true := by simpa using c9))
        clear c9
        obtain rfl := Option.some.inj H
        go_wp2
        go_ret
        exact ⟨by first | rfl | (simp [errW_none, errW_some] <;> rfl) | (simp [*, errW_none, errW_some] <;> rfl), by repeat (first | (with_reducible first | exact HB.out | apply below_alloc | apply pw_below_drewN | apply below_drew1) | exact HB.out)⟩
      · rw [if_neg c9] at H
        have c9b0 : ((t234 == 0) == (decide ((IntKind.u64.wrap (Int.tdiv a0 4)) < a1))) = false := by simpa using c9
        (try (have c9b1 : decide ((t234 == 0) = (decide ((IntKind.u64.wrap (Int.tdiv a0 4)) < a1))) = false := by simpa using c9))
        (try (have c9b2 : ((t234 == 0) == (decide ((IntKind.u64.wrap (Int.tdiv a0 4)) < a1))) = false := by simpa using c9))
        (try (have c9b3 : ¬ ((t234 == 0) = (decide ((IntKind.u64.wrap (Int.tdiv a0 4)) < a1))) := by simpa using c9))
        clear c9
        obtain rfl := Option.some.inj H
        go_wp2
        go_ret
        exact ⟨by first | rfl | (simp [errW_none, errW_some] <;> rfl) | (simp [*, errW_none, errW_some] <;> rfl), by repeat (first | (with_reducible first | exact HB.out | apply below_alloc | apply pw_below_drewN | apply below_drew1) | exact HB.out)⟩
    · rw [if_neg c8] at H
      have c8b0 : ((Int.tmod a0 4) == 0) = false := beq_eq_false_iff_ne.mpr c8
      have c8b1 : ((Int.tmod a0 4) != 0) = true := bne_iff_ne.mpr c8
      by_cases c10 : ((t234 == 0) == false) = true
      · rw [if_pos c10] at H
        have c10b0 : ((t234 == 0) == false) = true := c10
        (try (have c10b1 : decide ((t234 == 0) = false) = true := by simpa using c10))
        (try (have c10b2 : ((t234 == 0) == false) = true := by simpa using c10))
        clear c10
        obtain rfl := Option.some.inj H
        go_wp2
        go_ret
        exact ⟨by first | rfl | (simp [errW_none, errW_some] <;> rfl) | (simp [*, errW_none, errW_some] <;> rfl), by repeat (first | (with_reducible first | exact HB.out | apply below_alloc | apply pw_below_drewN | apply below_drew1) | exact HB.out)⟩
      · rw [if_neg c10] at H
        have c10b0 : ((t234 == 0) == false) = false := by simpa using c10
        (try (have c10b1 : decide ((t234 == 0) = false) = false := by simpa using c10))
        (try (have c10b2 : ((t234 == 0) == false) = false := by simpa using c10))
        (try (have c10b3 : ¬ ((t234 == 0) = false) := by simpa using c10))
        clear c10
        obtain rfl := Option.some.inj H
        go_wp2
        go_ret
        exact ⟨by first | rfl | (simp [errW_none, errW_some] <;> rfl) | (simp [*, errW_none, errW_some] <;> rfl), by repeat (first | (with_reducible first | exact HB.out | apply below_alloc | apply pw_below_drewN | apply below_drew1) | exact HB.out)⟩
  · replace c7 := Bool.eq_false_iff.mpr c7
    subst c7
    have H1 : (some false) = some r := by rw [if_neg (show ¬ (false = true) by decide)] at H; exact H
    clear H
    have H := H1
    clear H1
    obtain rfl := Option.some.inj H
    go_wp2
    go_ret
    exact ⟨by first | rfl | (simp [errW_none, errW_some] <;> rfl) | (simp [*, errW_none, errW_some] <;> rfl), by repeat (first | (with_reducible first | exact HB.out | apply below_alloc | apply pw_below_drewN | apply below_drew1) | exact HB.out)⟩

/-- THE ONE PURE STATEMENT of wigwaglaw19_CreditStreams: yours. -/
def wigwaglaw19_CreditStreams.Pure : Prop := ∀ (a0 : Int) (a1 : Int), (Lit.int .u64 a0).wf = true → (Lit.int .u64 a1).wf = true → wigwaglaw19_CreditStreams.f a0 a1 = some true
theorem wigwaglaw19_CreditStreams.walk (P : wigwaglaw19_CreditStreams.Pure) (a0 : Int) (a1 : Int) (w : World) (w0 : (Lit.int .u64 a0).wf = true) (w1 : (Lit.int .u64 a1).wf = true) :
    Calls Try.prog 8 #[.int .u64 a0, .int .u64 a1] w fun e w' => e = .returned (.bool true) ∧ Below w.heap.size w w' := by
  have h := P a0 a1 w0 w1
  refine (wigwaglaw19_CreditStreams.calls a0 a1 true w h).mono ?_
  rintro e w' ⟨rfl, hd⟩
  exact ⟨rfl, hd⟩

/-! ### wigwagref01_Sub: function 27 -/
def wigwagref01_Sub.f (a0 : Int) (a1 : Int) : Option (Int) := if a1 > a0 then (some 0) else (some (IntKind.u64.wrap (a0 - a1)))
set_option maxHeartbeats 8000000 in
set_option maxRecDepth 100000 in
theorem wigwagref01_Sub.calls (a0 : Int) (a1 : Int) (r : Int) (w : World) (h : wigwagref01_Sub.f a0 a1 = some r) :
    Calls Try.prog 27 #[.int .u64 a0, .int .u64 a1] w fun e w' => e = .returned (.int .u64 r) ∧ Drawn0 w w' := by
  have H : (if a1 > a0 then (some 0) else (some (IntKind.u64.wrap (a0 - a1)))) = some r := h
  clear h
  by_cases c3 : a1 > a0
  · rw [if_pos c3] at H
    have c3b0 : decide (a0 < a1) = true := decide_eq_true c3
    clear c3
    obtain rfl := Option.some.inj H
    go_enter Try.func27, Try.ntmps27
    go_wp2
    go_ret
    exact ⟨by first | rfl | (simp; done) | (simp [*]; done), by repeat (first | exact Drawn0.refl _ | apply Drawn0.step)⟩
  · rw [if_neg c3] at H
    have c3b0 : decide (a0 < a1) = false := decide_eq_false c3
    clear c3
    obtain rfl := Option.some.inj H
    go_enter Try.func27, Try.ntmps27
    go_wp2
    go_ret
    exact ⟨by first | rfl | (simp; done) | (simp [*]; done), by repeat (first | exact Drawn0.refl _ | apply Drawn0.step)⟩

/-! ### wigwagref19_Left: function 17 -/
def wigwagref19_Left.f (a0_0 : Int) (a0_1 : Int) : Option (Int) := (wigwagref01_Sub.f a0_0 a0_1).bind fun t236 => (some t236)
set_option maxHeartbeats 8000000 in
set_option maxRecDepth 100000 in
theorem wigwagref19_Left.calls (a0_0 : Int) (a0_1 : Int) (r : Int) (w : World) (h : wigwagref19_Left.f a0_0 a0_1 = some r) :
    Calls Try.prog 17 #[.agg #[.int .u64 a0_0, .int .u64 a0_1]] w fun e w' => e = .returned (.int .u64 r) ∧ Below w.heap.size w w' := by
  have hu25 := Try.underlying25
  have HB := Aside0.mk (Below.refl w.heap.size w)
  have H : ((wigwagref01_Sub.f a0_0 a0_1).bind fun t236 => (some t236)) = some r := h
  clear h
  replace H := Option.bind_eq_some_iff.mp H
  obtain ⟨t236, A20, H⟩ := H
  replace H : (some t236) = some r := H
  have A2 := Aside0.mk A20
  clear A20
  obtain rfl := Option.some.inj H
  go_enter Try.func17, Try.ntmps17
  go_wp2_with (first | ((with_reducible refine gate_dst (N := 1) rfl ?_); refine box_event ?hg (N := 1) ?hd (cs := #[.int .u64 a0_0, .int .u64 a0_1]) (t := 25) ?hr ?_; (case hd => rfl); (case hg => rfl); (case hr => first | (go_simp; done) | (go_simp; rfl)); intro gb235 hg w3 hbox hb; have n0_ := Aside0.mk (below_step (by repeat (first | (with_reducible first | exact HB.out | apply below_alloc | apply pw_below_drewN | apply below_drew1) | exact HB.out)) hb); have n1_ := Aside0.mk (hbox); have n2_ := Aside0.mk ((by rw [hg]; exact (below_size (by repeat (first | (with_reducible first | exact HB.out | apply below_alloc | apply pw_below_drewN | apply below_drew1) | exact HB.out))) : w.heap.size ≤ gb235)); have n3_ := Aside0.mk ((by rw [hg]; exact (below_size (by repeat (first | (with_reducible first | exact HB.out | apply below_alloc | apply pw_below_drewN | apply below_drew1) | exact HB.out))) : w.heap.size ≤ gb235)); clear HB; have HB := n0_; have BK235 := n1_; have GW235 := n2_; have GE235 := n3_; clear n0_ n1_ n2_ n3_; clear hb hbox hg; have hcz4_0 : w3.cell? ⟨gb235, 0, none⟩ = some (.int .u64 a0_0) := (blk_cell BK235.out 0).trans rfl; have hcz4_1 : w3.cell? ⟨gb235, 1, none⟩ = some (.int .u64 a0_1) := (blk_cell BK235.out 1).trans rfl; have hfz4_0 := blk_frozen BK235.out 0; have hfz4_1 := blk_frozen BK235.out 1) | ((with_reducible refine gate_callee (f := 27) rfl ?_); refine goesL_ (some 7) rfl rfl Try.func27 (by kernel_rfl) rfl #[.int .u64 a0_0, .int .u64 a0_1] rfl (by (try simp only [List.map_toArray, List.map_cons, List.map_nil]); first | done | rfl | (simp only [List.length_drop, List.length_take]; rfl)) ?_; (with_reducible refine (wigwagref01_Sub.calls a0_0 a0_1 t236 _ A2.out).mono ?_); rintro e w' ⟨rfl, ⟨nd, rfl⟩⟩; refine ⟨_, rfl, ?_⟩))
  go_ret
  exact ⟨by first | rfl | (simp [errW_none, errW_some] <;> rfl) | (simp [*, errW_none, errW_some] <;> rfl), by repeat (first | (with_reducible first | exact HB.out | apply below_alloc | apply pw_below_drewN | apply below_drew1 | refine below_set ?_ GE235.out) | exact HB.out)⟩

/-! ### wigwagref01_Add: function 25 -/
def wigwagref01_Add.f (a0 : Int) (a1 : Int) : Option (Int) := if a0 > (IntKind.u64.wrap (18446744073709551615 - a1)) then (some 18446744073709551615) else (some (IntKind.u64.wrap (a0 + a1)))
set_option maxHeartbeats 8000000 in
set_option maxRecDepth 100000 in
theorem wigwagref01_Add.calls (a0 : Int) (a1 : Int) (r : Int) (w : World) (h : wigwagref01_Add.f a0 a1 = some r) :
    Calls Try.prog 25 #[.int .u64 a0, .int .u64 a1] w fun e w' => e = .returned (.int .u64 r) ∧ Drawn0 w w' := by
  have H : (if a0 > (IntKind.u64.wrap (18446744073709551615 - a1)) then (some 18446744073709551615) else (some (IntKind.u64.wrap (a0 + a1)))) = some r := h
  clear h
  by_cases c3 : a0 > (IntKind.u64.wrap (18446744073709551615 - a1))
  · rw [if_pos c3] at H
    have c3b0 : decide ((IntKind.u64.wrap (18446744073709551615 - a1)) < a0) = true := decide_eq_true c3
    clear c3
    obtain rfl := Option.some.inj H
    go_enter Try.func25, Try.ntmps25
    go_wp2
    go_ret
    exact ⟨by first | rfl | (simp; done) | (simp [*]; done), by repeat (first | exact Drawn0.refl _ | apply Drawn0.step)⟩
  · rw [if_neg c3] at H
    have c3b0 : decide ((IntKind.u64.wrap (18446744073709551615 - a1)) < a0) = false := decide_eq_false c3
    clear c3
    obtain rfl := Option.some.inj H
    go_enter Try.func25, Try.ntmps25
    go_wp2
    go_ret
    exact ⟨by first | rfl | (simp; done) | (simp [*]; done), by repeat (first | exact Drawn0.refl _ | apply Drawn0.step)⟩

end Go.Proofs.Ytgfmmbgljbabbaa.P
