-- Printed for this claim by xprint.py of this session: contracts of this session's own stand in for what the print does not take
import Derived.Test.YtadhkamocbhbmaaPx0
import Derived.Test.YtadhkamocbhbmaaPx3
import Derived.Test.YtadhkamocbhbmaaPx15
namespace Go.Proofs.Ytadhkamocbhbmaa.P
open Go.RowKit Go.Proofs.YtadhkamocbhbmaaW.PrintWords Go.Proofs.YtadhkamocbhbmaaW.PrintLast Go.Proofs.YtadhkamocbhbmaaW.PrintMore
attribute [local go_sem] max2_int min2_int max_two min_two max_three min_three max_four min_four   -- for this text's walks alone
set_option linter.unusedVariables false
set_option linter.unusedSimpArgs false

/-! ### supply_Finish: function 14 -/
/-- A stream that ends. -/
def supply_Finish.f (a0_0 : Int) (l0_1 : List Int) (l0_2 : List S37) (l0_3 : List S37) (a0_4 : Bool) (a0_5 : Bool) (a0_6 : Bool) : Option (Int × List Int × List S37 × List S37 × Bool × Bool × Bool) :=
  if l0_1.length < 1000000000 ∧ l0_2.length < 1000000000 ∧ l0_3.length < 1000000000 then some (a0_0, l0_1, l0_2, l0_3, true, (a0_5 || !a0_4), a0_6) else none
set_option maxHeartbeats 8000000 in
set_option maxRecDepth 100000 in
theorem supply_Finish.calls (a0_0 : Int) (A0_1 : Option Addr) (c0_1 : Nat) (l0_1 : List Int) (A0_2 : Option Addr) (c0_2 : Nat) (l0_2 : List S37) (A0_3 : Option Addr) (c0_3 : Nat) (l0_3 : List S37) (a0_4 : Bool) (a0_5 : Bool) (a0_6 : Bool)  (r1 : Int) (r2 : List Int) (r3 : List S37) (r4 : List S37) (r5 : Bool) (r6 : Bool) (r7 : Bool) (w : World)
    (hr0_1 : Kd.C (Kd.int .u8) w A0_1 l0_1.length l0_1) (hc0_1 : l0_1.length ≤ c0_1) (hr0_2 : Kd.C k37 w A0_2 l0_2.length l0_2) (hc0_2 : l0_2.length ≤ c0_2) (hr0_3 : Kd.C k37 w A0_3 l0_3.length l0_3) (hc0_3 : l0_3.length ≤ c0_3)  (h : supply_Finish.f a0_0 l0_1 l0_2 l0_3 a0_4 a0_5 a0_6 = some (r1, r2, r3, r4, r5, r6, r7)) :
    Calls Try.prog 14 #[.agg #[.int .u64 a0_0, .slice A0_1 l0_1.length c0_1, .slice A0_2 l0_2.length c0_2, .slice A0_3 l0_3.length c0_3, .bool a0_4, .bool a0_5, .bool a0_6]] w fun e w' => ∃ v1_ v2_ v3_ : Value, e = .returned (.agg #[.int .u64 r1, v1_, v2_, v3_, .bool r5, .bool r6, .bool r7]) ∧ Kd.R (Kd.int .u8) 5 w' w.heap.size (fun _ => True) v1_ r2 ∧ Kd.R k37 37 w' w.heap.size (fun _ => True) v2_ r3 ∧ Kd.R k37 37 w' w.heap.size (fun _ => True) v3_ r4 ∧ Below w.heap.size w w' := by
  have HR1 := Aside0.mk hr0_1
  have HC1 := Aside0.mk hc0_1
  have HR2 := Aside0.mk hr0_2
  have HC2 := Aside0.mk hc0_2
  have HR3 := Aside0.mk hr0_3
  have HC3 := Aside0.mk hc0_3
  have HB := Aside0.mk (Below.refl w.heap.size w)
  clear hr0_1 hc0_1 hr0_2 hc0_2 hr0_3 hc0_3
  unfold supply_Finish.f at h
  by_cases hL : l0_1.length < 1000000000 ∧ l0_2.length < 1000000000 ∧ l0_3.length < 1000000000
  case neg => rw [if_neg hL] at h; cases h
  rw [if_pos hL] at h
  simp only [Option.some.injEq, Prod.mk.injEq] at h
  obtain ⟨rfl, rfl, rfl, rfl, rfl, rfl, rfl⟩ := h
  have HL : Aside0 (l0_1.length < 1000000000 ∧ l0_2.length < 1000000000 ∧ l0_3.length < 1000000000 ∧ True) := ⟨hL.1, hL.2.1, hL.2.2, trivial⟩
  clear hL
  generalize hf5 : (a0_5 || !a0_4) = f5
  have HF5 := Aside0.mk hf5
  clear hf5
  go_enter Try.func14, Try.ntmps14
  go_upto_region 1 with (first
    | ((with_reducible refine gate_dst (N := 1) rfl ?_); refine box_event ?hg (N := 1) ?hd (cs := #[.int .u64 a0_0, .slice A0_1 l0_1.length c0_1, .slice A0_2 l0_2.length c0_2, .slice A0_3 l0_3.length c0_3, .bool a0_4, .bool a0_5, .bool a0_6]) (t := 27) ?hr ?_; (case hd => rfl); (case hg => rfl); (case hr => first | (go_simp; done) | (go_simp; rfl)); intro g2 hg w2 hbox hb; have GE_g2 := Aside0.mk (show w.heap.size ≤ g2 by rw [hg]; exact HB.out.size); have n1_ := Aside0.mk (below_step HB.out hb); clear HB; have HB := n1_; clear n1_; have BK_g2 := Aside0.mk hbox; clear hbox hb hg)
    | ((with_reducible refine gate_dst (N := 2) rfl ?_); refine box_event ?hg (N := 2) ?hd (cs := #[.int .u64 0, .slice none 0 0, .slice none 0 0, .slice none 0 0, .bool false, .bool false, .bool false]) (t := 27) ?hr ?_; (case hd => rfl); (case hg => rfl); (case hr => first | (go_simp; done) | (go_simp; rfl)); intro g4 hg w4 hbox hb; have GE_g4 := Aside0.mk (show w.heap.size ≤ g4 by rw [hg]; exact HB.out.size); have NB_g2_g4 : g2 ≠ g4 := (by rw [hg]; exact Nat.ne_of_lt (blk_lt BK_g2.out)); have NB_g4_g2 := NB_g2_g4.symm; have n2_ := Aside0.mk (below_step HB.out hb); have n3_ := Aside0.mk (blk_below BK_g2.out hb); clear HB BK_g2; have HB := n2_; have BK_g2 := n3_; clear n2_ n3_; have BK_g4 := Aside0.mk hbox; clear hbox hb hg; have hx_g2_0 : w4.cell? ⟨g2, 0, none⟩ = some (.int .u64 a0_0) := (blk_cell BK_g2.out 0).trans rfl; have hf_g2_0 := blk_frozen BK_g2.out 0; have hx_g2_1 : w4.cell? ⟨g2, 1, none⟩ = some (.slice A0_1 l0_1.length c0_1) := (blk_cell BK_g2.out 1).trans rfl; have hf_g2_1 := blk_frozen BK_g2.out 1; have hx_g2_2 : w4.cell? ⟨g2, 2, none⟩ = some (.slice A0_2 l0_2.length c0_2) := (blk_cell BK_g2.out 2).trans rfl; have hf_g2_2 := blk_frozen BK_g2.out 2; have hx_g2_3 : w4.cell? ⟨g2, 3, none⟩ = some (.slice A0_3 l0_3.length c0_3) := (blk_cell BK_g2.out 3).trans rfl; have hf_g2_3 := blk_frozen BK_g2.out 3; have hx_g2_4 : w4.cell? ⟨g2, 4, none⟩ = some (.bool a0_4) := (blk_cell BK_g2.out 4).trans rfl; have hf_g2_4 := blk_frozen BK_g2.out 4; have hx_g2_5 : w4.cell? ⟨g2, 5, none⟩ = some (.bool a0_5) := (blk_cell BK_g2.out 5).trans rfl; have hf_g2_5 := blk_frozen BK_g2.out 5; have hx_g2_6 : w4.cell? ⟨g2, 6, none⟩ = some (.bool a0_6) := (blk_cell BK_g2.out 6).trans rfl; have hf_g2_6 := blk_frozen BK_g2.out 6))
  go_wp2_with fail
  refine (supply_changed.hand (fun W_ x0 y1 y2 y3 y4 y5 y6 => a0_0 = x0 ∧ true = y4 ∧ f5 = y5 ∧ a0_6 = y6 ∧ Kd.R (Kd.int .u8) 5 W_ w4.heap.size (fun _ => True) y1 l0_1 ∧ Kd.R k37 37 W_ w4.heap.size (fun _ => True) y2 l0_2 ∧ Kd.R k37 37 W_ w4.heap.size (fun _ => True) y3 l0_3) a0_0 _ _ l0_1 _ _ l0_2 _ _ l0_3 a0_4 a0_5 a0_6 29 _ #[] w4 (by rintro W_ g_ cs_ b0 b1 b2 b3 b4 b5 b6 x0 y1 y2 y3 y4 y5 y6 hb_ ⟨rfl, rfl, rfl, rfl, h1, h2, h3⟩; exact ⟨rfl, rfl, rfl, rfl, R_set7 h1 hb_ (ne_of rfl (by decide)), R_set7 h2 hb_ (ne_of rfl (by decide)), R_set7 h3 hb_ (ne_of rfl (by decide))⟩) Try.func29 (by kernel_rfl) rfl (Kd.C_below HR1.out HB.out) HC1.out (Kd.C_below HR2.out HB.out) HC2.out (Kd.C_below HR3.out HB.out) HC3.out HL.out.1 HL.out.2.1 HL.out.2.2.1 (fun g_ g4_ cs4_ v1_ v2_ v3_ W_ hb_ hb4_ hne_ hge_ hr1_ hr2_ hr3_ hB_ => Calls.mono (supply_Finish_1.hand a0_0 l0_1 l0_2 l0_3 v1_ v2_ v3_ a0_4 a0_5 a0_6 g_ g4_ cs4_ w4 W_ hb_ hb4_ hne_ hge_ hr1_ hr2_ hr3_ hB_) (by rintro e_ W2_ ⟨rfl, hb2_, hb42_, q1_, q2_, q3_, hB2_⟩; obtain ⟨X1, Y1, z1⟩ := Kd.R_slice q1_; obtain ⟨X2, Y2, z2⟩ := Kd.R_slice q2_; obtain ⟨X3, Y3, z3⟩ := Kd.R_slice q3_; subst z1 z2 z3; exact ⟨rfl, _, _, _, _, _, _, _, _, _, _, _, _, _, hb2_, hb42_, ⟨rfl, rfl, HF5.out.symm, rfl, q1_, q2_, q3_⟩, hB2_⟩))).mono ?_
  rintro e_ w5 ⟨x0, B1, p1, q1, B2, p2, q2, B3, p3, q3, y4, y5, y6, rfl, ⟨rfl, rfl, rfl, rfl, h1, h2, h3⟩, hb⟩
  have hsz_ := HB.out.size
  have F1 := Aside0.mk h1
  have F2 := Aside0.mk h2
  have F3 := Aside0.mk h3
  have HSZ := Aside0.mk hsz_
  clear h1 h2 h3 hsz_
  clear hx_g2_0 hf_g2_0 hx_g2_1 hf_g2_1 hx_g2_2 hf_g2_2 hx_g2_3 hf_g2_3 hx_g2_4 hf_g2_4 hx_g2_5 hf_g2_5 hx_g2_6 hf_g2_6
  have n4_ := Aside0.mk (below_step HB.out hb)
  have n5_ := Aside0.mk (blk_below BK_g2.out hb)
  have n6_ := Aside0.mk (blk_below BK_g4.out hb)
  clear HB BK_g2 BK_g4
  have HB := n4_
  have BK_g2 := n5_
  have BK_g4 := n6_
  clear n4_ n5_ n6_
  clear hb
  have hx_g4_0 : w5.cell? ⟨g4, 0, none⟩ = some (.int .u64 0) := (blk_cell BK_g4.out 0).trans rfl
  have hf_g4_0 := blk_frozen BK_g4.out 0
  have hx_g4_1 : w5.cell? ⟨g4, 1, none⟩ = some (.slice none 0 0) := (blk_cell BK_g4.out 1).trans rfl
  have hf_g4_1 := blk_frozen BK_g4.out 1
  have hx_g4_2 : w5.cell? ⟨g4, 2, none⟩ = some (.slice none 0 0) := (blk_cell BK_g4.out 2).trans rfl
  have hf_g4_2 := blk_frozen BK_g4.out 2
  have hx_g4_3 : w5.cell? ⟨g4, 3, none⟩ = some (.slice none 0 0) := (blk_cell BK_g4.out 3).trans rfl
  have hf_g4_3 := blk_frozen BK_g4.out 3
  have hx_g4_4 : w5.cell? ⟨g4, 4, none⟩ = some (.bool false) := (blk_cell BK_g4.out 4).trans rfl
  have hf_g4_4 := blk_frozen BK_g4.out 4
  have hx_g4_5 : w5.cell? ⟨g4, 5, none⟩ = some (.bool false) := (blk_cell BK_g4.out 5).trans rfl
  have hf_g4_5 := blk_frozen BK_g4.out 5
  have hx_g4_6 : w5.cell? ⟨g4, 6, none⟩ = some (.bool false) := (blk_cell BK_g4.out 6).trans rfl
  have hf_g4_6 := blk_frozen BK_g4.out 6
  go_wp2
  refine bodyPost_ret (results_cell_row rfl _ _ g4 27 #[.int .u64 a0_0, .slice B1 p1 q1, .slice B2 p2 q2, .slice B3 p3 q3, .bool true, .bool f5, .bool a0_6] (0, 0) _ rfl (blk_put7 BK_g4.out) Try.underlying27 rfl (by kernel_rfl)) rfl ?_
  exact ⟨_, _, _, rfl, Kd.R_lower (R_set7 F1.out BK_g4.out (ne_of rfl (by decide))) HSZ.out, Kd.R_lower (R_set7 F2.out BK_g4.out (ne_of rfl (by decide))) HSZ.out, Kd.R_lower (R_set7 F3.out BK_g4.out (ne_of rfl (by decide))) HSZ.out, below_set7 HB.out GE_g4.out⟩

/-! ### supply_Done: function 16 -/
def supply_Done.f (a0_0 : Int) (l0_1 : List Int) (l0_2 : List (S37)) (l0_3 : List (S37)) (a0_4 : Bool) (a0_5 : Bool) (a0_6 : Bool) : Option (Bool) := if a0_4 = true then (if a0_6 = true then (some ((l0_1.length : Int) == 0)) else (some false)) else (some false)
set_option maxHeartbeats 8000000 in
set_option maxRecDepth 100000 in
theorem supply_Done.calls (a0_0 : Int) (A0_1 : Option Addr) (c0_1 : Nat) (l0_1 : List Int) (A0_2 : Option Addr) (c0_2 : Nat) (l0_2 : List (S37)) (A0_3 : Option Addr) (c0_3 : Nat) (l0_3 : List (S37)) (a0_4 : Bool) (a0_5 : Bool) (a0_6 : Bool) (r : Bool) (w : World) (hr0_1 : Kd.C (Kd.int .u8) w A0_1 l0_1.length l0_1) (hc0_1 : l0_1.length ≤ c0_1) (hr0_2 : Kd.C k37 w A0_2 l0_2.length l0_2) (hc0_2 : l0_2.length ≤ c0_2) (hr0_3 : Kd.C k37 w A0_3 l0_3.length l0_3) (hc0_3 : l0_3.length ≤ c0_3) (h : supply_Done.f a0_0 l0_1 l0_2 l0_3 a0_4 a0_5 a0_6 = some r) :
    Calls Try.prog 16 #[.agg #[.int .u64 a0_0, .slice A0_1 l0_1.length c0_1, .slice A0_2 l0_2.length c0_2, .slice A0_3 l0_3.length c0_3, .bool a0_4, .bool a0_5, .bool a0_6]] w fun e w' => e = .returned (.bool r) ∧ Below w.heap.size w w' := by
  have hu27 := Try.underlying27
  have HR0_1 := Aside0.mk hr0_1
  have HC0_1 := Aside0.mk hc0_1
  clear hr0_1 hc0_1
  have HR0_2 := Aside0.mk hr0_2
  have HC0_2 := Aside0.mk hc0_2
  clear hr0_2 hc0_2
  have HR0_3 := Aside0.mk hr0_3
  have HC0_3 := Aside0.mk hc0_3
  clear hr0_3 hc0_3
  have HB := Aside0.mk (Below.refl w.heap.size w)
  have H : (if a0_4 = true then (if a0_6 = true then (some ((l0_1.length : Int) == 0)) else (some false)) else (some false)) = some r := h
  clear h
  have HS2 := Aside0.mk H
  clear H
  go_enter Try.func16, Try.ntmps16
  go_upto_region 1 with (first | ((with_reducible refine gate_dst (N := 1) rfl ?_); (try (refine gate_guard (by rfl) ?_; dsimp only)); refine box_event ?hg (N := 1) ?hd (cs := #[.int .u64 a0_0, .slice A0_1 l0_1.length c0_1, .slice A0_2 l0_2.length c0_2, .slice A0_3 l0_3.length c0_3, .bool a0_4, .bool a0_5, .bool a0_6]) (t := 27) ?hr ?_; (case hd => rfl); (case hg => rfl); (case hr => first | (go_simp; done) | (go_simp; rfl)); intro gb212 hg w3 hbox hb; have n0_ := Aside0.mk (below_step (by repeat (first | (with_reducible first | exact HB.out | apply below_alloc | apply pw_below_drewN | apply below_drew1) | exact HB.out)) hb); have n1_ := Aside0.mk (hbox); have n2_ := Aside0.mk ((by rw [hg]; exact (below_size (by repeat (first | (with_reducible first | exact HB.out | apply below_alloc | apply pw_below_drewN | apply below_drew1) | exact HB.out))) : w.heap.size ≤ gb212)); have n3_ := Aside0.mk ((by rw [hg]; exact (below_size (by repeat (first | (with_reducible first | exact HB.out | apply below_alloc | apply pw_below_drewN | apply below_drew1) | exact HB.out))) : w.heap.size ≤ gb212)); clear HB; have HB := n0_; have BK212 := n1_; have GW212 := n2_; have GE212 := n3_; clear n0_ n1_ n2_ n3_; clear hb hbox hg))
  (try simp only [Act.put, List.setIfInBounds_toArray, List.set_cons_zero, List.set_cons_succ])
  have H := HS2.out
  clear HS2
  by_cases c4 : a0_4 = true
  · subst c4
    have H1 : (if a0_6 = true then (some ((l0_1.length : Int) == 0)) else (some false)) = some r := by rw [if_pos rfl] at H; exact H
    clear H
    have H := H1
    clear H1
    by_cases c5 : a0_6 = true
    · subst c5
      have H1 : (some ((l0_1.length : Int) == 0)) = some r := by rw [if_pos rfl] at H; exact H
      clear H
      have H := H1
      clear H1
      obtain rfl := Option.some.inj H
      have hcz6_0 : w3.cell? ⟨gb212, 0, none⟩ = some (.int .u64 a0_0) := (blk_cell BK212.out 0).trans rfl
      have hcz6_1 : w3.cell? ⟨gb212, 1, none⟩ = some (.slice A0_1 l0_1.length c0_1) := (blk_cell BK212.out 1).trans rfl
      have hcz6_2 : w3.cell? ⟨gb212, 2, none⟩ = some (.slice A0_2 l0_2.length c0_2) := (blk_cell BK212.out 2).trans rfl
      have hcz6_3 : w3.cell? ⟨gb212, 3, none⟩ = some (.slice A0_3 l0_3.length c0_3) := (blk_cell BK212.out 3).trans rfl
      have hcz6_4 : w3.cell? ⟨gb212, 4, none⟩ = some (.bool true) := (blk_cell BK212.out 4).trans rfl
      have hcz6_5 : w3.cell? ⟨gb212, 5, none⟩ = some (.bool a0_5) := (blk_cell BK212.out 5).trans rfl
      have hcz6_6 : w3.cell? ⟨gb212, 6, none⟩ = some (.bool true) := (blk_cell BK212.out 6).trans rfl
      have hfz6_0 := blk_frozen BK212.out 0
      have hfz6_1 := blk_frozen BK212.out 1
      have hfz6_2 := blk_frozen BK212.out 2
      have hfz6_3 := blk_frozen BK212.out 3
      have hfz6_4 := blk_frozen BK212.out 4
      have hfz6_5 := blk_frozen BK212.out 5
      have hfz6_6 := blk_frozen BK212.out 6
      go_wp2
      go_ret
      exact ⟨by first | rfl | (simp [errW_none, errW_some] <;> rfl) | (simp [*, errW_none, errW_some] <;> rfl), by repeat (first | (with_reducible first | exact HB.out | apply below_alloc | apply pw_below_drewN | apply below_drew1 | refine below_set ?_ GE212.out) | exact HB.out)⟩
    · replace c5 := Bool.eq_false_iff.mpr c5
      subst c5
      have H1 : (some false) = some r := by rw [if_neg (show ¬ (false = true) by decide)] at H; exact H
      clear H
      have H := H1
      clear H1
      obtain rfl := Option.some.inj H
      have hcz7_0 : w3.cell? ⟨gb212, 0, none⟩ = some (.int .u64 a0_0) := (blk_cell BK212.out 0).trans rfl
      have hcz7_1 : w3.cell? ⟨gb212, 1, none⟩ = some (.slice A0_1 l0_1.length c0_1) := (blk_cell BK212.out 1).trans rfl
      have hcz7_2 : w3.cell? ⟨gb212, 2, none⟩ = some (.slice A0_2 l0_2.length c0_2) := (blk_cell BK212.out 2).trans rfl
      have hcz7_3 : w3.cell? ⟨gb212, 3, none⟩ = some (.slice A0_3 l0_3.length c0_3) := (blk_cell BK212.out 3).trans rfl
      have hcz7_4 : w3.cell? ⟨gb212, 4, none⟩ = some (.bool true) := (blk_cell BK212.out 4).trans rfl
      have hcz7_5 : w3.cell? ⟨gb212, 5, none⟩ = some (.bool a0_5) := (blk_cell BK212.out 5).trans rfl
      have hcz7_6 : w3.cell? ⟨gb212, 6, none⟩ = some (.bool false) := (blk_cell BK212.out 6).trans rfl
      have hfz7_0 := blk_frozen BK212.out 0
      have hfz7_1 := blk_frozen BK212.out 1
      have hfz7_2 := blk_frozen BK212.out 2
      have hfz7_3 := blk_frozen BK212.out 3
      have hfz7_4 := blk_frozen BK212.out 4
      have hfz7_5 := blk_frozen BK212.out 5
      have hfz7_6 := blk_frozen BK212.out 6
      go_wp2
      go_ret
      exact ⟨by first | rfl | (simp [errW_none, errW_some] <;> rfl) | (simp [*, errW_none, errW_some] <;> rfl), by repeat (first | (with_reducible first | exact HB.out | apply below_alloc | apply pw_below_drewN | apply below_drew1 | refine below_set ?_ GE212.out) | exact HB.out)⟩
  · replace c4 := Bool.eq_false_iff.mpr c4
    subst c4
    have H1 : (some false) = some r := by rw [if_neg (show ¬ (false = true) by decide)] at H; exact H
    clear H
    have H := H1
    clear H1
    obtain rfl := Option.some.inj H
    have hcz8_0 : w3.cell? ⟨gb212, 0, none⟩ = some (.int .u64 a0_0) := (blk_cell BK212.out 0).trans rfl
    have hcz8_1 : w3.cell? ⟨gb212, 1, none⟩ = some (.slice A0_1 l0_1.length c0_1) := (blk_cell BK212.out 1).trans rfl
    have hcz8_2 : w3.cell? ⟨gb212, 2, none⟩ = some (.slice A0_2 l0_2.length c0_2) := (blk_cell BK212.out 2).trans rfl
    have hcz8_3 : w3.cell? ⟨gb212, 3, none⟩ = some (.slice A0_3 l0_3.length c0_3) := (blk_cell BK212.out 3).trans rfl
    have hcz8_4 : w3.cell? ⟨gb212, 4, none⟩ = some (.bool false) := (blk_cell BK212.out 4).trans rfl
    have hcz8_5 : w3.cell? ⟨gb212, 5, none⟩ = some (.bool a0_5) := (blk_cell BK212.out 5).trans rfl
    have hcz8_6 : w3.cell? ⟨gb212, 6, none⟩ = some (.bool a0_6) := (blk_cell BK212.out 6).trans rfl
    have hfz8_0 := blk_frozen BK212.out 0
    have hfz8_1 := blk_frozen BK212.out 1
    have hfz8_2 := blk_frozen BK212.out 2
    have hfz8_3 := blk_frozen BK212.out 3
    have hfz8_4 := blk_frozen BK212.out 4
    have hfz8_5 := blk_frozen BK212.out 5
    have hfz8_6 := blk_frozen BK212.out 6
    go_wp2
    go_ret
    exact ⟨by first | rfl | (simp [errW_none, errW_some] <;> rfl) | (simp [*, errW_none, errW_some] <;> rfl), by repeat (first | (with_reducible first | exact HB.out | apply below_alloc | apply pw_below_drewN | apply below_drew1 | refine below_set ?_ GE212.out) | exact HB.out)⟩

end Go.Proofs.Ytadhkamocbhbmaa.P
