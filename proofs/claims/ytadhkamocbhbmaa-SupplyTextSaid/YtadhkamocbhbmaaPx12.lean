-- Printed for this claim by xprint.py of this session: contracts of this session's own stand in for what the print does not take
import Derived.Test.YtadhkamocbhbmaaPx0
import Derived.Test.YtadhkamocbhbmaaPx3
import Derived.Test.YtadhkamocbhbmaaPx4
import Derived.Test.YtadhkamocbhbmaaPx7
import Derived.Test.YtadhkamocbhbmaaPx10
import Derived.Test.YtadhkamocbhbmaaPx11
namespace Go.Proofs.Ytadhkamocbhbmaa.P
open Go.RowKit Go.Proofs.YtadhkamocbhbmaaW.PrintWords Go.Proofs.YtadhkamocbhbmaaW.PrintLast Go.Proofs.YtadhkamocbhbmaaW.PrintMore
attribute [local go_sem] max2_int min2_int max_two min_two max_three min_three max_four min_four   -- for this text's walks alone
set_option linter.unusedVariables false
set_option linter.unusedSimpArgs false

-- NOT PRINTED: function 19 (supply_changed_25)

/-! ### supply_Came: function 11 -/
/-- Behind a chunk that came. -/
def supply_Came.f (k : Nat) (a0_0 : Int) (l0_1 : List Int) (l0_2 : List S37) (l0_3 : List S37) (a0_4 : Bool) (a0_5 : Bool) (a0_6 : Bool) (a1_0 : Int) (l1_1 : List Int) (a1_2 : Bool) : Option (Int × List Int × List S37 × List S37 × Bool × Bool × Bool) :=
  if l0_1.length < 1000000000 ∧ l0_2.length < 1000000000 ∧ l0_3.length < 1000000000 ∧ 0 ≤ a0_0 then (span_Add.f k l0_3 (supply_places.f a0_0 a1_0 (IntKind.u64.wrap (a0_0 + IntKind.u64.wrap (l0_1.length : Int))) l1_1.length).1 (supply_places.f a0_0 a1_0 (IntKind.u64.wrap (a0_0 + IntKind.u64.wrap (l0_1.length : Int))) l1_1.length).2).bind fun x2 => (span_Cut.f l0_2 (supply_places.f a0_0 a1_0 (IntKind.u64.wrap (a0_0 + IntKind.u64.wrap (l0_1.length : Int))) l1_1.length).1 (supply_places.f a0_0 a1_0 (IntKind.u64.wrap (a0_0 + IntKind.u64.wrap (l0_1.length : Int))) l1_1.length).2).bind fun x3 => if x2.length < 1000000000 then (supply_Came_1.f a0_0 l0_1 x2).bind fun x4 => some (x4.1, x4.2.1, x3, x4.2.2, a0_4, (if a1_2 && a0_4 then false else a0_5), (if a1_2 && a0_4 then true else a0_6)) else none else none
theorem supply_Came.mono : ∀ a0 a1 a2 a3 a4 a5 a6 a7 a8 a9 k, LeO (supply_Came.f k a0 a1 a2 a3 a4 a5 a6 a7 a8 a9) (supply_Came.f (k + 1) a0 a1 a2 a3 a4 a5 a6 a7 a8 a9) := by
  intro a0 a1 a2 a3 a4 a5 a6 a7 a8 a9 k
  unfold supply_Came.f
  exact LeO.ite (LeO.bind (span_Add.mono _ _ _ _) (fun _ => LeO.refl _)) (LeO.none _)
set_option maxHeartbeats 8000000 in
set_option maxRecDepth 100000 in
theorem supply_Came.calls (k : Nat) (a0_0 : Int) (A0_1 : Option Addr) (c0_1 : Nat) (l0_1 : List Int) (A0_2 : Option Addr) (c0_2 : Nat) (l0_2 : List S37) (A0_3 : Option Addr) (c0_3 : Nat) (l0_3 : List S37) (a0_4 : Bool) (a0_5 : Bool) (a0_6 : Bool) (a1_0 : Int) (A1_1 : Option Addr) (c1_1 : Nat) (l1_1 : List Int) (a1_2 : Bool) (r1 : Int) (r2 : List Int) (r3 : List S37) (r4 : List S37) (r5 : Bool) (r6 : Bool) (r7 : Bool) (w : World)
    (hr0_1 : Kd.C (Kd.int .u8) w A0_1 l0_1.length l0_1) (hc0_1 : l0_1.length ≤ c0_1) (hr0_2 : Kd.C k37 w A0_2 l0_2.length l0_2) (hc0_2 : l0_2.length ≤ c0_2) (hr0_3 : Kd.C k37 w A0_3 l0_3.length l0_3) (hc0_3 : l0_3.length ≤ c0_3) (hr1_1 : Kd.C (Kd.int .u8) w A1_1 l1_1.length l1_1) (hc1_1 : l1_1.length ≤ c1_1) (h : supply_Came.f k a0_0 l0_1 l0_2 l0_3 a0_4 a0_5 a0_6 a1_0 l1_1 a1_2 = some (r1, r2, r3, r4, r5, r6, r7)) :
    Calls Try.prog 11 #[.agg #[.int .u64 a0_0, .slice A0_1 l0_1.length c0_1, .slice A0_2 l0_2.length c0_2, .slice A0_3 l0_3.length c0_3, .bool a0_4, .bool a0_5, .bool a0_6], .agg #[.int .u64 a1_0, .slice A1_1 l1_1.length c1_1, .bool a1_2]] w fun e w' => ∃ v1_ v2_ v3_ : Value, e = .returned (.agg #[.int .u64 r1, v1_, v2_, v3_, .bool r5, .bool r6, .bool r7]) ∧ Kd.V (Kd.int .u8) 5 w' w.heap.size (fun k_ => (w.heap.size ≤ k_)) v1_ r2 ∧ Kd.V k37 37 w' w.heap.size (fun k_ => (w.heap.size ≤ k_)) v2_ r3 ∧ Kd.V k37 37 w' w.heap.size (fun k_ => (w.heap.size ≤ k_)) v3_ r4 ∧ Below w.heap.size w w' := by
  have HR1 := Aside0.mk hr0_1
  have HC1 := Aside0.mk hc0_1
  have HR2 := Aside0.mk hr0_2
  have HC2 := Aside0.mk hc0_2
  have HR3 := Aside0.mk hr0_3
  have HC3 := Aside0.mk hc0_3
  have HB := Aside0.mk (Below.refl w.heap.size w)
  clear hr0_1 hc0_1 hr0_2 hc0_2 hr0_3 hc0_3
  clear hr1_1 hc1_1
  unfold supply_Came.f at h
  by_cases hL : l0_1.length < 1000000000 ∧ l0_2.length < 1000000000 ∧ l0_3.length < 1000000000 ∧ 0 ≤ a0_0
  case neg => rw [if_neg hL] at h; cases h
  rw [if_pos hL] at h
  obtain ⟨x2, hA, h⟩ := Option.bind_eq_some_iff.mp h
  obtain ⟨x3, hT, h⟩ := Option.bind_eq_some_iff.mp h
  by_cases hM : x2.length < 1000000000
  case neg => rw [if_neg hM] at h; cases h
  rw [if_pos hM] at h
  obtain ⟨⟨z1, z2, z3⟩, hF, h⟩ := Option.bind_eq_some_iff.mp h
  simp only [Option.some.injEq, Prod.mk.injEq] at h
  obtain ⟨rfl, rfl, rfl, rfl, rfl, rfl, rfl⟩ := h
  have HL : Aside0 (l0_1.length < 1000000000 ∧ l0_2.length < 1000000000 ∧ l0_3.length < 1000000000 ∧ 0 ≤ a0_0) := ⟨hL⟩
  have HM := Aside0.mk hM
  have HA := Aside0.mk hA
  have HT := Aside0.mk hT
  have HF := Aside0.mk hF
  clear hL hM hA hT hF
  generalize hf5 : (if a1_2 && a0_4 then false else a0_5) = f5
  generalize hf6 : (if a1_2 && a0_4 then true else a0_6) = f6
  have HF5 := Aside0.mk hf5
  have HF6 := Aside0.mk hf6
  clear hf5 hf6
  go_enter Try.func11, Try.ntmps11
  go_upto_region 1 with (first
    | ((with_reducible refine gate_dst (N := 2) rfl ?_); refine box_event ?hg (N := 2) ?hd (cs := #[.int .u64 a0_0, .slice A0_1 l0_1.length c0_1, .slice A0_2 l0_2.length c0_2, .slice A0_3 l0_3.length c0_3, .bool a0_4, .bool a0_5, .bool a0_6]) (t := 27) ?hr ?_; (case hd => rfl); (case hg => rfl); (case hr => first | (go_simp; done) | (go_simp; rfl)); intro g2 hg w2 hbox hb; have GE_g2 := Aside0.mk (show w.heap.size ≤ g2 by rw [hg]; exact HB.out.size); have n1_ := Aside0.mk (below_step HB.out hb); clear HB; have HB := n1_; clear n1_; have BK_g2 := Aside0.mk hbox; clear hbox hb hg)
    | ((with_reducible refine gate_dst (N := 3) rfl ?_); refine box_event ?hg (N := 3) ?hd (cs := #[.int .u64 a1_0, .slice A1_1 l1_1.length c1_1, .bool a1_2]) (t := 32) ?hr ?_; (case hd => rfl); (case hg => rfl); (case hr => first | (go_simp; done) | (go_simp; rfl)); intro g3 hg w3 hbox hb; have GE_g3 := Aside0.mk (show w.heap.size ≤ g3 by rw [hg]; exact HB.out.size); have NB_g2_g3 : g2 ≠ g3 := (by rw [hg]; exact Nat.ne_of_lt (blk_lt BK_g2.out)); have NB_g3_g2 := NB_g2_g3.symm; have n2_ := Aside0.mk (below_step HB.out hb); have n3_ := Aside0.mk (blk_below BK_g2.out hb); clear HB BK_g2; have HB := n2_; have BK_g2 := n3_; clear n2_ n3_; have BK_g3 := Aside0.mk hbox; clear hbox hb hg)
    | ((with_reducible refine gate_dst (N := 4) rfl ?_); refine box_event ?hg (N := 4) ?hd (cs := #[.int .u64 0, .slice none 0 0, .slice none 0 0, .slice none 0 0, .bool false, .bool false, .bool false]) (t := 27) ?hr ?_; (case hd => rfl); (case hg => rfl); (case hr => first | (go_simp; done) | (go_simp; rfl)); intro g4 hg w4 hbox hb; have GE_g4 := Aside0.mk (show w.heap.size ≤ g4 by rw [hg]; exact HB.out.size); have NB_g2_g4 : g2 ≠ g4 := (by rw [hg]; exact Nat.ne_of_lt (blk_lt BK_g2.out)); have NB_g4_g2 := NB_g2_g4.symm; have NB_g3_g4 : g3 ≠ g4 := (by rw [hg]; exact Nat.ne_of_lt (blk_lt BK_g3.out)); have NB_g4_g3 := NB_g3_g4.symm; have n4_ := Aside0.mk (below_step HB.out hb); have n5_ := Aside0.mk (blk_below BK_g2.out hb); have n6_ := Aside0.mk (blk_below BK_g3.out hb); clear HB BK_g2 BK_g3; have HB := n4_; have BK_g2 := n5_; have BK_g3 := n6_; clear n4_ n5_ n6_; have BK_g4 := Aside0.mk hbox; clear hbox hb hg; obtain ⟨hx_g2_0, hf_g2_0, hx_g2_1, hf_g2_1, hx_g2_2, hf_g2_2, hx_g2_3, hf_g2_3, hx_g2_4, hf_g2_4, hx_g2_5, hf_g2_5, hx_g2_6, hf_g2_6⟩ := cells7 BK_g2.out))
  go_wp2_with fail
  refine (supply_changed.hand (fun W_ x0 y1 y2 y3 y4 y5 y6 => z1 = x0 ∧ a0_4 = y4 ∧ f5 = y5 ∧ f6 = y6 ∧ VR (Kd.int .u8) 5 W_ w4.heap.size y1 z2 ∧ Kd.R k37 37 W_ w4.heap.size (fun _ => True) y2 x3 ∧ VR k37 37 W_ w4.heap.size y3 z3) a0_0 _ _ l0_1 _ _ l0_2 _ _ l0_3 a0_4 a0_5 a0_6 25 _ #[.pointer (some ⟨g3, 0, none⟩)] w4 (by rintro W_ g_ cs_ b0 b1 b2 b3 b4 b5 b6 x0 y1 y2 y3 y4 y5 y6 hb_ ⟨rfl, rfl, rfl, rfl, h1, h2, h3⟩; exact ⟨rfl, rfl, rfl, rfl, VR_set7 h1 hb_ (ne_of rfl (by decide)), R_set7 h2 hb_ (ne_of rfl (by decide)), VR_set7 h3 hb_ (ne_of rfl (by decide))⟩) Try.func25 (by kernel_rfl) rfl (Kd.C_below HR1.out HB.out) HC1.out (Kd.C_below HR2.out HB.out) HC2.out (Kd.C_below HR3.out HB.out) HC3.out HL.out.1 HL.out.2.1 HL.out.2.2.1 (fun g_ g4_ cs4_ v1_ v2_ v3_ W_ hb_ hb4_ hne_ hge_ hr1_ hr2_ hr3_ hB_ => Calls.mono (supply_Came_1.hand g3 a1_0 A1_1 c1_1 l1_1 a1_2 _ _ _ z1 z2 x3 x2 z3 k a0_0 l0_1 l0_2 l0_3 v1_ v2_ v3_ a0_4 a0_5 a0_6 g_ g4_ cs4_ w4 W_ hb_ hb4_ hne_ hge_ hr1_ hr2_ hr3_ hB_ (blk_below BK_g3.out hB_) ⟨HL.out.1, HM.out, HL.out.2.2.2⟩ rfl rfl HA.out HT.out HF.out) (by rintro e_ W2_ ⟨rfl, u1_, u2_, u3_, hb2_, hb42_, q1_, q2_, q3_, hB2_⟩; obtain ⟨X1, Y1, z1⟩ := VR_slice q1_; obtain ⟨X2, Y2, z2⟩ := Kd.R_slice q2_; obtain ⟨X3, Y3, z3⟩ := VR_slice q3_; subst z1 z2 z3; exact ⟨rfl, _, _, _, _, _, _, _, _, _, _, _, _, _, hb2_, hb42_, ⟨rfl, rfl, HF5.out.symm, HF6.out.symm, q1_, q2_, q3_⟩, hB2_⟩))).mono ?_
  rintro e_ w5 ⟨x0, B1, p1, q1, B2, p2, q2, B3, p3, q3, y4, y5, y6, rfl, ⟨rfl, rfl, rfl, rfl, h1, h2, h3⟩, hb⟩
  have hsz_ := HB.out.size
  have F1 := Aside0.mk h1
  have F2 := Aside0.mk h2
  have F3 := Aside0.mk h3
  have HSZ := Aside0.mk hsz_
  clear h1 h2 h3 hsz_
  clear hx_g2_0 hf_g2_0 hx_g2_1 hf_g2_1 hx_g2_2 hf_g2_2 hx_g2_3 hf_g2_3 hx_g2_4 hf_g2_4 hx_g2_5 hf_g2_5 hx_g2_6 hf_g2_6
  have n7_ := Aside0.mk (below_step HB.out hb)
  have n8_ := Aside0.mk (blk_below BK_g2.out hb)
  have n9_ := Aside0.mk (blk_below BK_g3.out hb)
  have n10_ := Aside0.mk (blk_below BK_g4.out hb)
  clear HB BK_g2 BK_g3 BK_g4
  have HB := n7_
  have BK_g2 := n8_
  have BK_g3 := n9_
  have BK_g4 := n10_
  clear n7_ n8_ n9_ n10_
  clear hb
  obtain ⟨hx_g4_0, hf_g4_0, hx_g4_1, hf_g4_1, hx_g4_2, hf_g4_2, hx_g4_3, hf_g4_3, hx_g4_4, hf_g4_4, hx_g4_5, hf_g4_5, hx_g4_6, hf_g4_6⟩ := cells7 BK_g4.out
  go_wp2
  refine bodyPost_ret (results_cell_row rfl _ _ g4 27 #[.int .u64 z1, .slice B1 p1 q1, .slice B2 p2 q2, .slice B3 p3 q3, .bool a0_4, .bool f5, .bool f6] (0, 0) _ rfl (blk_put7 BK_g4.out) Try.underlying27 rfl (by kernel_rfl)) rfl ?_
  exact ⟨_, _, _, rfl, Kd.V_mono (VR_V (VR_set7 F1.out BK_g4.out (ne_of rfl (by decide)))) (fun _ hk => Nat.le_trans HSZ.out hk), Kd.V_mono (Kd.R_V (Kd.R_mono (Kd.R_bound (R_set7 F2.out BK_g4.out (ne_of rfl (by decide)))) (ok' := fun k_ => w4.heap.size ≤ k_) (fun _ hk => hk.2.1))) (fun _ hk => Nat.le_trans HSZ.out hk), Kd.V_mono (VR_V (VR_set7 F3.out BK_g4.out (ne_of rfl (by decide)))) (fun _ hk => Nat.le_trans HSZ.out hk), below_set7 HB.out GE_g4.out⟩

end Go.Proofs.Ytadhkamocbhbmaa.P
