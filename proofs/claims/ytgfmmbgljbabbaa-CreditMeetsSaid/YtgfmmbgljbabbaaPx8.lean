-- Printed for this claim by xprint.py of this session: contracts of this session's own stand in for what the print does not take
import Derived.Test.YtgfmmbgljbabbaaPx0
import Derived.Test.YtgfmmbgljbabbaaPx3
import Derived.Test.YtgfmmbgljbabbaaPx5
import Derived.Test.YtgfmmbgljbabbaaPx6
namespace Go.Proofs.Ytgfmmbgljbabbaa.P
open Go.RowKit Go.Proofs.YtgfmmbgljbabbaaW.PrintWords Go.Proofs.YtgfmmbgljbabbaaW.PrintLast Go.Proofs.YtgfmmbgljbabbaaW.PrintMore
attribute [local go_sem] max2_int min2_int max_two min_two max_three min_three max_four min_four   -- for this text's walks alone
set_option linter.unusedVariables false
set_option linter.unusedSimpArgs false

/-! ### wigwaglaw19_CreditMeets: function 6 -/
mutual
def wigwaglaw19_CreditMeets.l0 : Nat → Int → List Int → Bool → Int → Int → Int → Int → Int → Int → Int → Option (Bool)
  | 0, _, _, _, _, _, _, _, _, _, _ => none
  | k + 1, x0, x1, x5, x8, x185000, x185001, x185002, x185003, x186000, x186001 => if x8 < (x1.length : Int) then (wigwaglaw19_CreditMeets.j1 k x0 x1 x5 x8 (decide (x8 < 100)) x185000 x185001 x185002 x185003 x186000 x186001) else (wigwaglaw19_CreditMeets.j1 k x0 x1 x5 x8 false x185000 x185001 x185002 x185003 x186000 x186001)
def wigwaglaw19_CreditMeets.j1 : Nat → Int → List Int → Bool → Int → Bool → Int → Int → Int → Int → Int → Int → Option (Bool)
  | 0, _, _, _, _, _, _, _, _, _, _, _ => none
  | k + 1, x0, x1, x5, x8, x30, x185000, x185001, x185002, x185003, x186000, x186001 => if x30 = true then ((credit_Left.f x186000 x186001).bind fun t186 => ((credit_Use.f x186000 x186001 t186).bind fun bt187 => ((credit_Come.f x185000 x185001 x185002 x185003 t186).bind fun bt191 => (if bt187.2.2 = true then (wigwaglaw19_CreditMeets.j2 k x0 x1 x5 x8 (bt191.2.2.2.2 != 0) bt187.1 bt187.2.1 bt191.1 bt191.2.1 bt191.2.2.1 bt191.2.2.2.1) else (wigwaglaw19_CreditMeets.j2 k x0 x1 x5 x8 true bt187.1 bt187.2.1 bt191.1 bt191.2.1 bt191.2.2.1 bt191.2.2.2.1))))) else (some x5)
def wigwaglaw19_CreditMeets.j2 : Nat → Int → List Int → Bool → Int → Bool → Int → Int → Int → Int → Int → Int → Option (Bool)
  | 0, _, _, _, _, _, _, _, _, _, _, _ => none
  | k + 1, x0, x1, x5, x8, x52, x191000, x191001, x197000, x197001, x197002, x197003 => if x52 = true then (some false) else (if 0 ≤ x8 then (if x8 < (x1.length : Int) then ((credit_Read.f x197000 x197001 x197002 x197003 (IntKind.u64.wrap (rd x1 x8))).bind fun bt198 => (if bt198.1 < x197000 then (wigwaglaw19_CreditMeets.j3 k x0 x1 x5 x8 true x191000 x191001 bt198.1 bt198.2.1 bt198.2.2.1 bt198.2.2.2.1) else (if (bt198.2.2.2.2 != (decide (bt198.1 > x197000))) = true then (wigwaglaw19_CreditMeets.j3 k x0 x1 x5 x8 true x191000 x191001 bt198.1 bt198.2.1 bt198.2.2.1 bt198.2.2.2.1) else (if bt198.2.2.1 > bt198.2.1 then (wigwaglaw19_CreditMeets.j3 k x0 x1 x5 x8 true x191000 x191001 bt198.1 bt198.2.1 bt198.2.2.1 bt198.2.2.2.1) else (if bt198.2.1 > bt198.1 then (wigwaglaw19_CreditMeets.j3 k x0 x1 x5 x8 true x191000 x191001 bt198.1 bt198.2.1 bt198.2.2.1 bt198.2.2.2.1) else (wigwaglaw19_CreditMeets.j3 k x0 x1 x5 x8 (decide ((IntKind.u64.wrap (bt198.1 - bt198.2.2.1)) < (IntKind.u64.wrap (Int.tdiv (IntKind.u64.wrap (x0)) 2)))) x191000 x191001 bt198.1 bt198.2.1 bt198.2.2.1 bt198.2.2.2.1)))))) else (none)) else (none))
def wigwaglaw19_CreditMeets.j3 : Nat → Int → List Int → Bool → Int → Bool → Int → Int → Int → Int → Int → Int → Option (Bool)
  | 0, _, _, _, _, _, _, _, _, _, _, _ => none
  | k + 1, x0, x1, x5, x8, x101, x191000, x191001, x204000, x204001, x204002, x204003 => if x101 = true then (some false) else ((credit_Raise.f x191000 x191001 x204000).bind fun bt204 => (wigwaglaw19_CreditMeets.l0 k x0 x1 x5 (wrap64 (x8 + 1)) x204000 x204001 x204002 x204003 bt204.1 bt204.2))
end
def wigwaglaw19_CreditMeets.f (k : Nat) (a0 : Int) (l1 : List Int) : Option (Bool) := (wigwaglaw19_awake.f).bind fun t179 => ((credit_Begin.f (IntKind.u64.wrap (a0))).bind fun bt180 => (wigwaglaw19_CreditMeets.l0 k a0 l1 t179 0 bt180.1 bt180.2.1 bt180.2.2.1 bt180.2.2.2 (IntKind.u64.wrap (a0)) 0))
theorem wigwaglaw19_CreditMeets.mono_l : ∀ k, (∀ y0 y1 y2 y3 y4 y5 y6 y7 y8 y9, LeO (wigwaglaw19_CreditMeets.l0 k y0 y1 y2 y3 y4 y5 y6 y7 y8 y9) (wigwaglaw19_CreditMeets.l0 (k + 1) y0 y1 y2 y3 y4 y5 y6 y7 y8 y9)) ∧ (∀ y0 y1 y2 y3 y4 y5 y6 y7 y8 y9 y10, LeO (wigwaglaw19_CreditMeets.j1 k y0 y1 y2 y3 y4 y5 y6 y7 y8 y9 y10) (wigwaglaw19_CreditMeets.j1 (k + 1) y0 y1 y2 y3 y4 y5 y6 y7 y8 y9 y10)) ∧ (∀ y0 y1 y2 y3 y4 y5 y6 y7 y8 y9 y10, LeO (wigwaglaw19_CreditMeets.j2 k y0 y1 y2 y3 y4 y5 y6 y7 y8 y9 y10) (wigwaglaw19_CreditMeets.j2 (k + 1) y0 y1 y2 y3 y4 y5 y6 y7 y8 y9 y10)) ∧ (∀ y0 y1 y2 y3 y4 y5 y6 y7 y8 y9 y10, LeO (wigwaglaw19_CreditMeets.j3 k y0 y1 y2 y3 y4 y5 y6 y7 y8 y9 y10) (wigwaglaw19_CreditMeets.j3 (k + 1) y0 y1 y2 y3 y4 y5 y6 y7 y8 y9 y10))
  | 0 => ⟨fun _ _ _ _ _ _ _ _ _ _ r h => by simp [wigwaglaw19_CreditMeets.l0] at h, fun _ _ _ _ _ _ _ _ _ _ _ r h => by simp [wigwaglaw19_CreditMeets.j1] at h, fun _ _ _ _ _ _ _ _ _ _ _ r h => by simp [wigwaglaw19_CreditMeets.j2] at h, fun _ _ _ _ _ _ _ _ _ _ _ r h => by simp [wigwaglaw19_CreditMeets.j3] at h⟩
  | k + 1 => by
    obtain ⟨ih0, ih1, ih2, ih3⟩ := wigwaglaw19_CreditMeets.mono_l k
    refine ⟨?_, ?_, ?_, ?_⟩
    · intro y0 y1 y2 y3 y4 y5 y6 y7 y8 y9
      unfold wigwaglaw19_CreditMeets.l0
      repeat' first
      | (with_reducible exact ih0 _ _ _ _ _ _ _ _ _ _)
      | (with_reducible exact ih1 _ _ _ _ _ _ _ _ _ _ _)
      | (with_reducible exact ih2 _ _ _ _ _ _ _ _ _ _ _)
      | (with_reducible exact ih3 _ _ _ _ _ _ _ _ _ _ _)
      | (with_reducible exact LeO.refl _)
      | (with_reducible exact LeO.none _)
      | (with_reducible refine LeO.ite ?_ ?_)
      | (with_reducible refine LeO.bind ?_ (fun _ => ?_))
      | exact ih0 _ _ _ _ _ _ _ _ _ _
      | exact ih1 _ _ _ _ _ _ _ _ _ _ _
      | exact ih2 _ _ _ _ _ _ _ _ _ _ _
      | exact ih3 _ _ _ _ _ _ _ _ _ _ _
      | exact LeO.none _
      | refine LeO.ite ?_ ?_
      | refine LeO.bind ?_ (fun _ => ?_)
    · intro y0 y1 y2 y3 y4 y5 y6 y7 y8 y9 y10
      unfold wigwaglaw19_CreditMeets.j1
      repeat' first
      | (with_reducible exact ih0 _ _ _ _ _ _ _ _ _ _)
      | (with_reducible exact ih1 _ _ _ _ _ _ _ _ _ _ _)
      | (with_reducible exact ih2 _ _ _ _ _ _ _ _ _ _ _)
      | (with_reducible exact ih3 _ _ _ _ _ _ _ _ _ _ _)
      | (with_reducible exact LeO.refl _)
      | (with_reducible exact LeO.none _)
      | (with_reducible refine LeO.ite ?_ ?_)
      | (with_reducible refine LeO.bind ?_ (fun _ => ?_))
      | exact ih0 _ _ _ _ _ _ _ _ _ _
      | exact ih1 _ _ _ _ _ _ _ _ _ _ _
      | exact ih2 _ _ _ _ _ _ _ _ _ _ _
      | exact ih3 _ _ _ _ _ _ _ _ _ _ _
      | exact LeO.none _
      | refine LeO.ite ?_ ?_
      | refine LeO.bind ?_ (fun _ => ?_)
    · intro y0 y1 y2 y3 y4 y5 y6 y7 y8 y9 y10
      unfold wigwaglaw19_CreditMeets.j2
      repeat' first
      | (with_reducible exact ih0 _ _ _ _ _ _ _ _ _ _)
      | (with_reducible exact ih1 _ _ _ _ _ _ _ _ _ _ _)
      | (with_reducible exact ih2 _ _ _ _ _ _ _ _ _ _ _)
      | (with_reducible exact ih3 _ _ _ _ _ _ _ _ _ _ _)
      | (with_reducible exact LeO.refl _)
      | (with_reducible exact LeO.none _)
      | (with_reducible refine LeO.ite ?_ ?_)
      | (with_reducible refine LeO.bind ?_ (fun _ => ?_))
      | exact ih0 _ _ _ _ _ _ _ _ _ _
      | exact ih1 _ _ _ _ _ _ _ _ _ _ _
      | exact ih2 _ _ _ _ _ _ _ _ _ _ _
      | exact ih3 _ _ _ _ _ _ _ _ _ _ _
      | exact LeO.none _
      | refine LeO.ite ?_ ?_
      | refine LeO.bind ?_ (fun _ => ?_)
    · intro y0 y1 y2 y3 y4 y5 y6 y7 y8 y9 y10
      unfold wigwaglaw19_CreditMeets.j3
      repeat' first
      | (with_reducible exact ih0 _ _ _ _ _ _ _ _ _ _)
      | (with_reducible exact ih1 _ _ _ _ _ _ _ _ _ _ _)
      | (with_reducible exact ih2 _ _ _ _ _ _ _ _ _ _ _)
      | (with_reducible exact ih3 _ _ _ _ _ _ _ _ _ _ _)
      | (with_reducible exact LeO.refl _)
      | (with_reducible exact LeO.none _)
      | (with_reducible refine LeO.ite ?_ ?_)
      | (with_reducible refine LeO.bind ?_ (fun _ => ?_))
      | exact ih0 _ _ _ _ _ _ _ _ _ _
      | exact ih1 _ _ _ _ _ _ _ _ _ _ _
      | exact ih2 _ _ _ _ _ _ _ _ _ _ _
      | exact ih3 _ _ _ _ _ _ _ _ _ _ _
      | exact LeO.none _
      | refine LeO.ite ?_ ?_
      | refine LeO.bind ?_ (fun _ => ?_)
theorem wigwaglaw19_CreditMeets.mono : ∀ a0 a1 k, LeO (wigwaglaw19_CreditMeets.f k a0 a1) (wigwaglaw19_CreditMeets.f (k + 1) a0 a1) := by
  intro a0 a1 k
  obtain ⟨ih0, ih1, ih2, ih3⟩ := wigwaglaw19_CreditMeets.mono_l k
  unfold wigwaglaw19_CreditMeets.f
  repeat' first
      | (with_reducible exact ih0 _ _ _ _ _ _ _ _ _ _)
      | (with_reducible exact ih1 _ _ _ _ _ _ _ _ _ _ _)
      | (with_reducible exact ih2 _ _ _ _ _ _ _ _ _ _ _)
      | (with_reducible exact ih3 _ _ _ _ _ _ _ _ _ _ _)
      | (with_reducible exact LeO.refl _)
      | (with_reducible exact LeO.none _)
      | (with_reducible refine LeO.ite ?_ ?_)
      | (with_reducible refine LeO.bind ?_ (fun _ => ?_))
      | exact ih0 _ _ _ _ _ _ _ _ _ _
      | exact ih1 _ _ _ _ _ _ _ _ _ _ _
      | exact ih2 _ _ _ _ _ _ _ _ _ _ _
      | exact ih3 _ _ _ _ _ _ _ _ _ _ _
      | exact LeO.none _
      | refine LeO.ite ?_ ?_
      | refine LeO.bind ?_ (fun _ => ?_)
def wigwaglaw19_CreditMeets.T12 : Bool × List (List Nat × List Nat) := (true, [([], []), ([], []), ([], []), ([1, 2], [1, 2]), ([3], [3]), ([4], [4]), ([0, 5], [0, 5]), ([6], [6]), ([7], [7]), ([7], [7]), ([], []), ([10, 8, 6, 0, 1, 2, 3, 4, 5, 6, 7, 8, 10], [8, 10]), ([9, 11, 0, 1, 2, 3, 4, 5, 6, 7, 8, 9, 10, 11], [9])])
def wigwaglaw19_CreditMeets.B12 : List Nat := [0, 0, 0, 6, 14, 30, 63, 127, 255, 255, 0, 1535, 4095]
theorem wigwaglaw19_CreditMeets.tab12 : rtab .any (opsOf Try.f6 12) = wigwaglaw19_CreditMeets.T12 := by kernel_rfl
theorem wigwaglaw19_CreditMeets.bits12 : waitsOk wigwaglaw19_CreditMeets.T12.2 wigwaglaw19_CreditMeets.B12 = true := by kernel_rfl
set_option maxHeartbeats 8000000 in
set_option maxRecDepth 100000 in
theorem wigwaglaw19_CreditMeets.calls (k : Nat) (a0 : Int) (A1 : Option Addr) (c1 : Nat) (l1 : List Int) (r : Bool) (w : World) (hr1 : Kd.C (Kd.int .u32) w A1 l1.length l1) (hc1 : l1.length ≤ c1) (h : wigwaglaw19_CreditMeets.f k a0 l1 = some r) :
    Calls Try.prog 6 #[.int .u32 a0, .slice A1 l1.length c1] w fun e w' => e = .returned (.bool r) ∧ Below w.heap.size w w' := by
  have hu27 := Try.underlying27
  have hu25 := Try.underlying25
  have HR1 := Aside0.mk hr1
  have HC1 := Aside0.mk hc1
  clear hr1 hc1
  have HB := Aside0.mk (Below.refl w.heap.size w)
  have H : ((wigwaglaw19_awake.f).bind fun t179 => ((credit_Begin.f (IntKind.u64.wrap (a0))).bind fun bt180 => (wigwaglaw19_CreditMeets.l0 k a0 l1 t179 0 bt180.1 bt180.2.1 bt180.2.2.1 bt180.2.2.2 (IntKind.u64.wrap (a0)) 0))) = some r := h
  clear h
  replace H := Option.bind_eq_some_iff.mp H
  obtain ⟨t179, A30, H⟩ := H
  replace H : ((credit_Begin.f (IntKind.u64.wrap (a0))).bind fun bt180 => (wigwaglaw19_CreditMeets.l0 k a0 l1 t179 0 bt180.1 bt180.2.1 bt180.2.2.1 bt180.2.2.2 (IntKind.u64.wrap (a0)) 0)) = some r := H
  have A3 := Aside0.mk A30
  clear A30
  replace H := Option.bind_eq_some_iff.mp H
  obtain ⟨⟨t180, t181, t182, t183⟩, A40, H⟩ := H
  replace H : (wigwaglaw19_CreditMeets.l0 k a0 l1 t179 0 t180 t181 t182 t183 (IntKind.u64.wrap (a0)) 0) = some r := H
  have A4 := Aside0.mk A40
  clear A40
  have H' := Aside0.mk H
  clear H
  go_enter Try.func6, Try.ntmps6
  go_wp2_with (first | ((with_reducible refine gate_callee (f := 9) rfl ?_); refine goesL_ (some 16) rfl rfl Try.func9 (by kernel_rfl) rfl #[] rfl (by (try simp only [List.map_toArray, List.map_cons, List.map_nil]); first | done | rfl | (simp only [List.length_drop, List.length_take]; rfl)) ?_; (with_reducible refine (wigwaglaw19_awake.calls  t179 _ A3.out).mono ?_); rintro e w5 ⟨rfl, hb⟩; refine ⟨_, rfl, ?_⟩; have n0_ := Aside0.mk (below_step (by repeat (first | (with_reducible first | exact HB.out | apply below_alloc | apply pw_below_drewN | apply below_drew1) | exact HB.out)) hb); clear HB; have HB := n0_; clear n0_; (try clear hb); (try clear hb2); (try clear hk); (try clear hi)) | ((with_reducible refine gate_callee (f := 20) rfl ?_); refine goesL_ (some 19) rfl rfl Try.func20 (by kernel_rfl) rfl #[.int .u64 (IntKind.u64.wrap (a0))] rfl (by (try simp only [List.map_toArray, List.map_cons, List.map_nil]); first | done | rfl | (simp only [List.length_drop, List.length_take]; rfl)) ?_; (with_reducible refine (credit_Begin.calls (IntKind.u64.wrap (a0)) t180 t181 t182 t183 _ A4.out).mono ?_); rintro e w6 ⟨rfl, hb⟩; refine ⟨_, rfl, ?_⟩; have n0_ := Aside0.mk (below_step (by repeat (first | (with_reducible first | exact HB.out | apply below_alloc | apply pw_below_drewN | apply below_drew1) | exact HB.out)) hb); clear HB; have HB := n0_; clear n0_; (try clear hb); (try clear hb2); (try clear hk); (try clear hi)) | ((with_reducible refine gate_dst (N := 6) rfl ?_); refine box_event ?hg (N := 6) ?hd (cs := #[.int .u64 0, .int .u64 0, .int .u64 0, .int .u64 0]) (t := 27) ?hr ?_; (case hd => rfl); (case hg => rfl); (case hr => first | (go_simp; done) | (go_simp; rfl)); intro gb184 hg w7 hbox hb; have n0_ := Aside0.mk (below_step (by repeat (first | (with_reducible first | exact HB.out | apply below_alloc | apply pw_below_drewN | apply below_drew1) | exact HB.out)) hb); have n1_ := Aside0.mk (hbox); have n2_ := Aside0.mk ((by rw [hg]; exact (below_size (by repeat (first | (with_reducible first | exact HB.out | apply below_alloc | apply pw_below_drewN | apply below_drew1) | exact HB.out))) : w.heap.size ≤ gb184)); have n3_ := Aside0.mk ((by rw [hg]; exact (below_size (by repeat (first | (with_reducible first | exact HB.out | apply below_alloc | apply pw_below_drewN | apply below_drew1) | exact HB.out))) : w.heap.size ≤ gb184)); clear HB; have HB := n0_; have BK184 := n1_; have GW184 := n2_; have GE184 := n3_; clear n0_ n1_ n2_ n3_; clear hb hbox hg; have hcz8_0 : w7.cell? ⟨gb184, 0, none⟩ = some (.int .u64 0) := (blk_cell BK184.out 0).trans rfl; have hcz8_1 : w7.cell? ⟨gb184, 1, none⟩ = some (.int .u64 0) := (blk_cell BK184.out 1).trans rfl; have hcz8_2 : w7.cell? ⟨gb184, 2, none⟩ = some (.int .u64 0) := (blk_cell BK184.out 2).trans rfl; have hcz8_3 : w7.cell? ⟨gb184, 3, none⟩ = some (.int .u64 0) := (blk_cell BK184.out 3).trans rfl; have hfz8_0 := blk_frozen BK184.out 0; have hfz8_1 := blk_frozen BK184.out 1; have hfz8_2 := blk_frozen BK184.out 2; have hfz8_3 := blk_frozen BK184.out 3) | ((with_reducible refine gate_dst (N := 7) rfl ?_); refine box_event ?hg (N := 7) ?hd (cs := #[.int .u64 0, .int .u64 0]) (t := 25) ?hr ?_; (case hd => rfl); (case hg => rfl); (case hr => first | (go_simp; done) | (go_simp; rfl)); intro gb185 hg w9 hbox hb; have n0_ := Aside0.mk (blk_below (g := gb184) (o := .cells #[.int .u64 t180, .int .u64 t181, .int .u64 t182, .int .u64 t183] 27 (0, 0)) (by (with_reducible repeat (first | refine blk_drewN ?_ _ | refine blk_drew ?_ | refine blk_alloc ?_ _)); refine blk_put (cs := #[.int .u64 t180, .int .u64 t181, .int .u64 t182, .int .u64 0]) ?_ 3 _ rfl; (with_reducible repeat (first | refine blk_drewN ?_ _ | refine blk_drew ?_ | refine blk_alloc ?_ _)); refine blk_put (cs := #[.int .u64 t180, .int .u64 t181, .int .u64 0, .int .u64 0]) ?_ 2 _ rfl; (with_reducible repeat (first | refine blk_drewN ?_ _ | refine blk_drew ?_ | refine blk_alloc ?_ _)); refine blk_put (cs := #[.int .u64 t180, .int .u64 0, .int .u64 0, .int .u64 0]) ?_ 1 _ rfl; (with_reducible repeat (first | refine blk_drewN ?_ _ | refine blk_drew ?_ | refine blk_alloc ?_ _)); refine blk_put (cs := #[.int .u64 0, .int .u64 0, .int .u64 0, .int .u64 0]) ?_ 0 _ rfl; (with_reducible repeat (first | refine blk_drewN ?_ _ | refine blk_drew ?_ | refine blk_alloc ?_ _)); exact BK184.out) hb); have n1_ := Aside0.mk (below_step (by repeat (first | (with_reducible first | exact HB.out | apply below_alloc | apply pw_below_drewN | apply below_drew1 | refine below_set ?_ GE184.out) | exact HB.out)) hb); have n2_ := Aside0.mk (hbox); have n3_ := Aside0.mk ((by rw [hg]; exact (below_size (by repeat (first | (with_reducible first | exact HB.out | apply below_alloc | apply pw_below_drewN | apply below_drew1 | refine below_set ?_ GE184.out) | exact HB.out))) : w.heap.size ≤ gb185)); have n4_ := Aside0.mk ((by rw [hg]; exact (below_size (by repeat (first | (with_reducible first | exact HB.out | apply below_alloc | apply pw_below_drewN | apply below_drew1 | refine below_set ?_ GE184.out) | exact HB.out))) : w.heap.size ≤ gb185)); have n5_ := Aside0.mk ((by rw [hg]; exact Nat.ne_of_lt (blk_lt (g := gb184) (o := .cells #[.int .u64 t180, .int .u64 t181, .int .u64 t182, .int .u64 t183] 27 (0, 0)) (by (with_reducible repeat (first | refine blk_drewN ?_ _ | refine blk_drew ?_ | refine blk_alloc ?_ _)); refine blk_put (cs := #[.int .u64 t180, .int .u64 t181, .int .u64 t182, .int .u64 0]) ?_ 3 _ rfl; (with_reducible repeat (first | refine blk_drewN ?_ _ | refine blk_drew ?_ | refine blk_alloc ?_ _)); refine blk_put (cs := #[.int .u64 t180, .int .u64 t181, .int .u64 0, .int .u64 0]) ?_ 2 _ rfl; (with_reducible repeat (first | refine blk_drewN ?_ _ | refine blk_drew ?_ | refine blk_alloc ?_ _)); refine blk_put (cs := #[.int .u64 t180, .int .u64 0, .int .u64 0, .int .u64 0]) ?_ 1 _ rfl; (with_reducible repeat (first | refine blk_drewN ?_ _ | refine blk_drew ?_ | refine blk_alloc ?_ _)); refine blk_put (cs := #[.int .u64 0, .int .u64 0, .int .u64 0, .int .u64 0]) ?_ 0 _ rfl; (with_reducible repeat (first | refine blk_drewN ?_ _ | refine blk_drew ?_ | refine blk_alloc ?_ _)); exact BK184.out)) : gb184 ≠ gb185)); have n6_ := Aside0.mk ((by rw [hg]; exact Nat.ne_of_gt (blk_lt (g := gb184) (o := .cells #[.int .u64 t180, .int .u64 t181, .int .u64 t182, .int .u64 t183] 27 (0, 0)) (by (with_reducible repeat (first | refine blk_drewN ?_ _ | refine blk_drew ?_ | refine blk_alloc ?_ _)); refine blk_put (cs := #[.int .u64 t180, .int .u64 t181, .int .u64 t182, .int .u64 0]) ?_ 3 _ rfl; (with_reducible repeat (first | refine blk_drewN ?_ _ | refine blk_drew ?_ | refine blk_alloc ?_ _)); refine blk_put (cs := #[.int .u64 t180, .int .u64 t181, .int .u64 0, .int .u64 0]) ?_ 2 _ rfl; (with_reducible repeat (first | refine blk_drewN ?_ _ | refine blk_drew ?_ | refine blk_alloc ?_ _)); refine blk_put (cs := #[.int .u64 t180, .int .u64 0, .int .u64 0, .int .u64 0]) ?_ 1 _ rfl; (with_reducible repeat (first | refine blk_drewN ?_ _ | refine blk_drew ?_ | refine blk_alloc ?_ _)); refine blk_put (cs := #[.int .u64 0, .int .u64 0, .int .u64 0, .int .u64 0]) ?_ 0 _ rfl; (with_reducible repeat (first | refine blk_drewN ?_ _ | refine blk_drew ?_ | refine blk_alloc ?_ _)); exact BK184.out)) : gb185 ≠ gb184)); clear BK184; clear HB; have BK184 := n0_; have HB := n1_; have BK185 := n2_; have GW185 := n3_; have GE185 := n4_; have NB184_185 := n5_; have NB185_184 := n6_; clear n0_ n1_ n2_ n3_ n4_ n5_ n6_; clear hb hbox hg; have hnb10 := NB185_184.out; have hnc10 := NB184_185.out; have hcz11_0 : w9.cell? ⟨gb185, 0, none⟩ = some (.int .u64 0) := (blk_cell BK185.out 0).trans rfl; have hcz11_1 : w9.cell? ⟨gb185, 1, none⟩ = some (.int .u64 0) := (blk_cell BK185.out 1).trans rfl; have hfz11_0 := blk_frozen BK185.out 0; have hfz11_1 := blk_frozen BK185.out 1))
  go_loopg [8] k (fun kq v8 w' => ∃ (x8_1 : Int) (x185000_1 : Int) (x185001_1 : Int) (x185002_1 : Int) (x185003_1 : Int) (x186000_1 : Int) (x186001_1 : Int), v8 = .int .i64 x8_1 ∧ Aside0 (wigwaglaw19_CreditMeets.l0 kq a0 l1 t179 x8_1 x185000_1 x185001_1 x185002_1 x185003_1 x186000_1 x186001_1 = some r) ∧ Aside0 (kq ≤ k) ∧ Aside0 (w'.heap[gb184]? = some (.cells #[.int .u64 x185000_1, .int .u64 x185001_1, .int .u64 x185002_1, .int .u64 x185003_1] 27 (0, 0))) ∧ Aside0 (w'.heap[gb185]? = some (.cells #[.int .u64 x186000_1, .int .u64 x186001_1] 25 (0, 0))) ∧ Aside0 (Below w.heap.size w w'))
  case atStart => exact ⟨(0), (t180), (t181), (t182), (t183), (IntKind.u64.wrap (a0)), (0), (by first | rfl | (simp; done) | (simp [*]; done)), H', ⟨Nat.le_refl _⟩, ⟨by (with_reducible repeat (first | refine blk_drewN ?_ _ | refine blk_drew ?_ | refine blk_alloc ?_ _)); refine blk_far ?_ NB184_185.out _; (with_reducible repeat (first | refine blk_drewN ?_ _ | refine blk_drew ?_ | refine blk_alloc ?_ _)); refine blk_far ?_ NB184_185.out _; (with_reducible repeat (first | refine blk_drewN ?_ _ | refine blk_drew ?_ | refine blk_alloc ?_ _)); exact BK184.out⟩, ⟨by (with_reducible repeat (first | refine blk_drewN ?_ _ | refine blk_drew ?_ | refine blk_alloc ?_ _)); refine blk_put (cs := #[.int .u64 (IntKind.u64.wrap (a0)), .int .u64 0]) ?_ 1 _ rfl; (with_reducible repeat (first | refine blk_drewN ?_ _ | refine blk_drew ?_ | refine blk_alloc ?_ _)); refine blk_put (cs := #[.int .u64 0, .int .u64 0]) ?_ 0 _ rfl; (with_reducible repeat (first | refine blk_drewN ?_ _ | refine blk_drew ?_ | refine blk_alloc ?_ _)); exact BK185.out⟩, ⟨by repeat (first | (with_reducible first | exact HB.out | apply below_alloc | apply pw_below_drewN | apply below_drew1 | refine below_set ?_ GE184.out | refine below_set ?_ GE185.out) | exact HB.out)⟩⟩
  case round =>
    clear H'
    try clear c1
    try clear c2
    try clear p2
    try clear c6
    try clear c9
    try clear c10
    try clear hcz11_0
    try clear hcz11_1
    try clear hcz8_0
    try clear hcz8_1
    try clear hcz8_2
    try clear hcz8_3
    try clear hfz11_0
    try clear hfz11_1
    try clear hfz8_0
    try clear hfz8_1
    try clear hfz8_2
    try clear hfz8_3
    obtain ⟨x8_1, x185000_1, x185001_1, x185002_1, x185003_1, x186000_1, x186001_1, rfl, HA, HK1, BK184, BK185, HB⟩ := hrel
    cases gk with
    | zero => exact absurd HA.out (by simp [wigwaglaw19_CreditMeets.l0])
    | succ k1 =>
      have H := HA.out
      clear HA
      simp only [wigwaglaw19_CreditMeets.l0] at H
      have HC12 := Aside0.mk H
      clear H
      go_upto_region 5 with (fail)
      go_cut [30] (fun v30 wc => ∃ (kq : Nat) (x30_11 : Bool), v30 = .bool x30_11 ∧ Aside0 (wigwaglaw19_CreditMeets.j1 kq a0 l1 t179 x8_1 x30_11 x185000_1 x185001_1 x185002_1 x185003_1 x186000_1 x186001_1 = some r) ∧ Aside0 (kq ≤ k1) ∧ Aside0 (wc.heap[gb184]? = some (.cells #[.int .u64 x185000_1, .int .u64 x185001_1, .int .u64 x185002_1, .int .u64 x185003_1] 27 (0, 0))) ∧ Aside0 (wc.heap[gb185]? = some (.cells #[.int .u64 x186000_1, .int .u64 x186001_1] 25 (0, 0))) ∧ Aside0 (Below w.heap.size w wc))
      case first =>
        have H := HC12.out
        clear HC12
        by_cases c13 : x8_1 < (l1.length : Int)
        · rw [if_pos c13] at H
          have c13b0 : decide (x8_1 < (l1.length : Int)) = true := decide_eq_true c13
          clear c13
          (first | rw [c13b0] | (simp only [i64_w, i32_w]; rw [c13b0]) | skip)
          have H' := Aside0.mk H
          clear H
          go_wp2
          go_meet
          case rel => exact ⟨_, (decide (x8_1 < 100)), (by first | rfl | (simp; done) | (simp [*]; done)), H', ⟨by have := HK1.out; first | omega | exact Nat.le_refl _⟩, ⟨by (with_reducible repeat (first | refine blk_drewN ?_ _ | refine blk_drew ?_ | refine blk_alloc ?_ _)); exact BK184.out⟩, ⟨by (with_reducible repeat (first | refine blk_drewN ?_ _ | refine blk_drew ?_ | refine blk_alloc ?_ _)); exact BK185.out⟩, ⟨by repeat (first | (with_reducible first | exact HB.out | apply below_alloc | apply pw_below_drewN | apply below_drew1 | refine below_set ?_ GE184.out | refine below_set ?_ GE185.out) | exact HB.out)⟩⟩
        · rw [if_neg c13] at H
          have c13b0 : decide (x8_1 < (l1.length : Int)) = false := decide_eq_false c13
          clear c13
          (first | rw [c13b0] | (simp only [i64_w, i32_w]; rw [c13b0]) | skip)
          have H' := Aside0.mk H
          clear H
          go_wp2
          go_meet
          case rel => exact ⟨_, (false), (by first | rfl | (simp; done) | (simp [*]; done)), H', ⟨by have := HK1.out; first | omega | exact Nat.le_refl _⟩, ⟨by (with_reducible repeat (first | refine blk_drewN ?_ _ | refine blk_drew ?_ | refine blk_alloc ?_ _)); exact BK184.out⟩, ⟨by (with_reducible repeat (first | refine blk_drewN ?_ _ | refine blk_drew ?_ | refine blk_alloc ?_ _)); exact BK185.out⟩, ⟨by repeat (first | (with_reducible first | exact HB.out | apply below_alloc | apply pw_below_drewN | apply below_drew1 | refine below_set ?_ GE184.out | refine below_set ?_ GE185.out) | exact HB.out)⟩⟩
      case rest =>
        clear HC12
        try clear c1
        try clear c2
        try clear p2
        try clear c6
        try clear c9
        try clear c10
        try clear c13
        try clear c13b0
        try clear hcz11_0
        try clear hcz11_1
        try clear hcz8_0
        try clear hcz8_1
        try clear hcz8_2
        try clear hcz8_3
        try clear hfz11_0
        try clear hfz11_1
        try clear hfz8_0
        try clear hfz8_1
        try clear hfz8_2
        try clear hfz8_3
        try clear p2
        obtain ⟨kq, x30_11, rfl, HA, HJ11, BK184, BK185, HB⟩ := hcut
        cases kq with
        | zero => exact absurd HA.out (by simp [wigwaglaw19_CreditMeets.j1])
        | succ kj11 =>
          have H := HA.out
          clear HA
          simp only [wigwaglaw19_CreditMeets.j1] at H
          by_cases c14 : x30_11 = true
          · subst c14
            have H1 : ((credit_Left.f x186000_1 x186001_1).bind fun t186 => ((credit_Use.f x186000_1 x186001_1 t186).bind fun bt187 => ((credit_Come.f x185000_1 x185001_1 x185002_1 x185003_1 t186).bind fun bt191 => (if bt187.2.2 = true then (wigwaglaw19_CreditMeets.j2 kj11 a0 l1 t179 x8_1 (bt191.2.2.2.2 != 0) bt187.1 bt187.2.1 bt191.1 bt191.2.1 bt191.2.2.1 bt191.2.2.2.1) else (wigwaglaw19_CreditMeets.j2 kj11 a0 l1 t179 x8_1 true bt187.1 bt187.2.1 bt191.1 bt191.2.1 bt191.2.2.1 bt191.2.2.2.1))))) = some r := by rw [if_pos rfl] at H; exact H
            clear H
            have H := H1
            clear H1
            replace H := Option.bind_eq_some_iff.mp H
            obtain ⟨t186, A150, H⟩ := H
            replace H : ((credit_Use.f x186000_1 x186001_1 t186).bind fun bt187 => ((credit_Come.f x185000_1 x185001_1 x185002_1 x185003_1 t186).bind fun bt191 => (if bt187.2.2 = true then (wigwaglaw19_CreditMeets.j2 kj11 a0 l1 t179 x8_1 (bt191.2.2.2.2 != 0) bt187.1 bt187.2.1 bt191.1 bt191.2.1 bt191.2.2.1 bt191.2.2.2.1) else (wigwaglaw19_CreditMeets.j2 kj11 a0 l1 t179 x8_1 true bt187.1 bt187.2.1 bt191.1 bt191.2.1 bt191.2.2.1 bt191.2.2.2.1)))) = some r := H
            have A15 := Aside0.mk A150
            clear A150
            replace H := Option.bind_eq_some_iff.mp H
            obtain ⟨⟨t187, t188, t189⟩, A160, H⟩ := H
            replace H : ((credit_Come.f x185000_1 x185001_1 x185002_1 x185003_1 t186).bind fun bt191 => (if t189 = true then (wigwaglaw19_CreditMeets.j2 kj11 a0 l1 t179 x8_1 (bt191.2.2.2.2 != 0) t187 t188 bt191.1 bt191.2.1 bt191.2.2.1 bt191.2.2.2.1) else (wigwaglaw19_CreditMeets.j2 kj11 a0 l1 t179 x8_1 true t187 t188 bt191.1 bt191.2.1 bt191.2.2.1 bt191.2.2.2.1))) = some r := H
            have A16 := Aside0.mk A160
            clear A160
            replace H := Option.bind_eq_some_iff.mp H
            obtain ⟨⟨t191, t192, t193, t194, t195⟩, A170, H⟩ := H
            replace H : (if t189 = true then (wigwaglaw19_CreditMeets.j2 kj11 a0 l1 t179 x8_1 (t195 != 0) t187 t188 t191 t192 t193 t194) else (wigwaglaw19_CreditMeets.j2 kj11 a0 l1 t179 x8_1 true t187 t188 t191 t192 t193 t194)) = some r := H
            have A17 := Aside0.mk A170
            clear A170
            have HC18 := Aside0.mk H
            clear H
            have hnb19 := NB185_184.out
            have hnc19 := NB184_185.out
            have hcz20_0 : wc.cell? ⟨gb185, 0, none⟩ = some (.int .u64 x186000_1) := (blk_cell BK185.out 0).trans rfl
            have hcz20_1 : wc.cell? ⟨gb185, 1, none⟩ = some (.int .u64 x186001_1) := (blk_cell BK185.out 1).trans rfl
            have hfz20_0 := blk_frozen BK185.out 0
            have hfz20_1 := blk_frozen BK185.out 1
            go_upto_region 10 with (first | ((with_reducible refine gate_callee (f := 16) rfl ?_); refine goesL_ (some 34) rfl rfl Try.func16 (by kernel_rfl) rfl #[.agg #[.int .u64 x186000_1, .int .u64 x186001_1]] rfl (by (try simp only [List.map_toArray, List.map_cons, List.map_nil]); first | done | rfl | (simp only [List.length_drop, List.length_take]; rfl)) ?_; (with_reducible refine (credit_Left.calls x186000_1 x186001_1 t186 _ A15.out).mono ?_); rintro e w21 ⟨rfl, hb⟩; refine ⟨_, rfl, ?_⟩; have n0_ := Aside0.mk (blk_below (g := gb184) (o := .cells #[.int .u64 x185000_1, .int .u64 x185001_1, .int .u64 x185002_1, .int .u64 x185003_1] 27 (0, 0)) (by (with_reducible repeat (first | refine blk_drewN ?_ _ | refine blk_drew ?_ | refine blk_alloc ?_ _)); exact BK184.out) hb); have n1_ := Aside0.mk (blk_below (g := gb185) (o := .cells #[.int .u64 x186000_1, .int .u64 x186001_1] 25 (0, 0)) (by (with_reducible repeat (first | refine blk_drewN ?_ _ | refine blk_drew ?_ | refine blk_alloc ?_ _)); exact BK185.out) hb); have n2_ := Aside0.mk (below_step (by repeat (first | (with_reducible first | exact HB.out | apply below_alloc | apply pw_below_drewN | apply below_drew1 | refine below_set ?_ GE184.out | refine below_set ?_ GE185.out) | exact HB.out)) hb); clear BK184; clear BK185; clear HB; have BK184 := n0_; have BK185 := n1_; have HB := n2_; clear n0_ n1_ n2_; (try clear hb); (try clear hb2); (try clear hk); (try clear hi); have hcz22_0 : w21.cell? ⟨gb185, 0, none⟩ = some (.int .u64 x186000_1) := (blk_cell BK185.out 0).trans rfl; have hcz22_1 : w21.cell? ⟨gb185, 1, none⟩ = some (.int .u64 x186001_1) := (blk_cell BK185.out 1).trans rfl; have hfz22_0 := blk_frozen BK185.out 0; have hfz22_1 := blk_frozen BK185.out 1) | ((with_reducible refine gate_callee (f := 10) rfl ?_); refine goesL_ (some 38) rfl rfl Try.func10 (by kernel_rfl) rfl #[.agg #[.int .u64 x186000_1, .int .u64 x186001_1], .int .u64 t186] rfl (by (try simp only [List.map_toArray, List.map_cons, List.map_nil]); first | done | rfl | (simp only [List.length_drop, List.length_take]; rfl)) ?_; (with_reducible refine (credit_Use.calls x186000_1 x186001_1 t186 t187 t188 t189 _ A16.out).mono ?_); rintro e w23 ⟨rfl, hb⟩; refine ⟨_, rfl, ?_⟩; have n0_ := Aside0.mk (blk_below (g := gb184) (o := .cells #[.int .u64 x185000_1, .int .u64 x185001_1, .int .u64 x185002_1, .int .u64 x185003_1] 27 (0, 0)) (by (with_reducible repeat (first | refine blk_drewN ?_ _ | refine blk_drew ?_ | refine blk_alloc ?_ _)); exact BK184.out) hb); have n1_ := Aside0.mk (blk_below (g := gb185) (o := .cells #[.int .u64 x186000_1, .int .u64 x186001_1] 25 (0, 0)) (by (with_reducible repeat (first | refine blk_drewN ?_ _ | refine blk_drew ?_ | refine blk_alloc ?_ _)); exact BK185.out) hb); have n2_ := Aside0.mk (below_step (by repeat (first | (with_reducible first | exact HB.out | apply below_alloc | apply pw_below_drewN | apply below_drew1 | refine below_set ?_ GE184.out | refine below_set ?_ GE185.out) | exact HB.out)) hb); clear BK184; clear BK185; clear HB; have BK184 := n0_; have BK185 := n1_; have HB := n2_; clear n0_ n1_ n2_; (try clear hb); (try clear hb2); (try clear hk); (try clear hi)) | ((with_reducible refine gate_dst (N := 10) rfl ?_); refine box_event ?hg (N := 10) ?hd (cs := #[.int .u64 0, .int .u64 0]) (t := 25) ?hr ?_; (case hd => rfl); (case hg => rfl); (case hr => first | (go_simp; done) | (go_simp; rfl)); intro gb190 hg w24 hbox hb; have n0_ := Aside0.mk (blk_below (g := gb184) (o := .cells #[.int .u64 x185000_1, .int .u64 x185001_1, .int .u64 x185002_1, .int .u64 x185003_1] 27 (0, 0)) (by (with_reducible repeat (first | refine blk_drewN ?_ _ | refine blk_drew ?_ | refine blk_alloc ?_ _)); exact BK184.out) hb); have n1_ := Aside0.mk (blk_below (g := gb185) (o := .cells #[.int .u64 x186000_1, .int .u64 x186001_1] 25 (0, 0)) (by (with_reducible repeat (first | refine blk_drewN ?_ _ | refine blk_drew ?_ | refine blk_alloc ?_ _)); exact BK185.out) hb); have n2_ := Aside0.mk (below_step (by repeat (first | (with_reducible first | exact HB.out | apply below_alloc | apply pw_below_drewN | apply below_drew1 | refine below_set ?_ GE184.out | refine below_set ?_ GE185.out) | exact HB.out)) hb); have n3_ := Aside0.mk (hbox); have n4_ := Aside0.mk ((by rw [hg]; exact (below_size (by repeat (first | (with_reducible first | exact HB.out | apply below_alloc | apply pw_below_drewN | apply below_drew1 | refine below_set ?_ GE184.out | refine below_set ?_ GE185.out) | exact HB.out))) : w.heap.size ≤ gb190)); have n5_ := Aside0.mk ((by rw [hg]; exact (below_size (by repeat (first | (with_reducible first | exact HB.out | apply below_alloc | apply pw_below_drewN | apply below_drew1 | refine below_set ?_ GE184.out | refine below_set ?_ GE185.out) | exact HB.out))) : w.heap.size ≤ gb190)); have n6_ := Aside0.mk ((by rw [hg]; exact Nat.ne_of_lt (blk_lt (g := gb184) (o := .cells #[.int .u64 x185000_1, .int .u64 x185001_1, .int .u64 x185002_1, .int .u64 x185003_1] 27 (0, 0)) (by (with_reducible repeat (first | refine blk_drewN ?_ _ | refine blk_drew ?_ | refine blk_alloc ?_ _)); exact BK184.out)) : gb184 ≠ gb190)); have n7_ := Aside0.mk ((by rw [hg]; exact Nat.ne_of_gt (blk_lt (g := gb184) (o := .cells #[.int .u64 x185000_1, .int .u64 x185001_1, .int .u64 x185002_1, .int .u64 x185003_1] 27 (0, 0)) (by (with_reducible repeat (first | refine blk_drewN ?_ _ | refine blk_drew ?_ | refine blk_alloc ?_ _)); exact BK184.out)) : gb190 ≠ gb184)); have n8_ := Aside0.mk ((by rw [hg]; exact Nat.ne_of_lt (blk_lt (g := gb185) (o := .cells #[.int .u64 x186000_1, .int .u64 x186001_1] 25 (0, 0)) (by (with_reducible repeat (first | refine blk_drewN ?_ _ | refine blk_drew ?_ | refine blk_alloc ?_ _)); exact BK185.out)) : gb185 ≠ gb190)); have n9_ := Aside0.mk ((by rw [hg]; exact Nat.ne_of_gt (blk_lt (g := gb185) (o := .cells #[.int .u64 x186000_1, .int .u64 x186001_1] 25 (0, 0)) (by (with_reducible repeat (first | refine blk_drewN ?_ _ | refine blk_drew ?_ | refine blk_alloc ?_ _)); exact BK185.out)) : gb190 ≠ gb185)); clear BK184; clear BK185; clear HB; have BK184 := n0_; have BK185 := n1_; have HB := n2_; have BK190 := n3_; have GW190 := n4_; have GE190 := n5_; have NB184_190 := n6_; have NB190_184 := n7_; have NB185_190 := n8_; have NB190_185 := n9_; clear n0_ n1_ n2_ n3_ n4_ n5_ n6_ n7_ n8_ n9_; clear hb hbox hg; have hnb25 := NB190_184.out; have hnc25 := NB184_190.out; have hnb26 := NB190_185.out; have hnc26 := NB185_190.out; have hcz27_0 : w24.cell? ⟨gb190, 0, none⟩ = some (.int .u64 0) := (blk_cell BK190.out 0).trans rfl; have hcz27_1 : w24.cell? ⟨gb190, 1, none⟩ = some (.int .u64 0) := (blk_cell BK190.out 1).trans rfl; have hfz27_0 := blk_frozen BK190.out 0; have hfz27_1 := blk_frozen BK190.out 1; have hcz28_0 : w24.cell? ⟨gb184, 0, none⟩ = some (.int .u64 x185000_1) := (blk_cell BK184.out 0).trans rfl; have hcz28_1 : w24.cell? ⟨gb184, 1, none⟩ = some (.int .u64 x185001_1) := (blk_cell BK184.out 1).trans rfl; have hcz28_2 : w24.cell? ⟨gb184, 2, none⟩ = some (.int .u64 x185002_1) := (blk_cell BK184.out 2).trans rfl; have hcz28_3 : w24.cell? ⟨gb184, 3, none⟩ = some (.int .u64 x185003_1) := (blk_cell BK184.out 3).trans rfl; have hfz28_0 := blk_frozen BK184.out 0; have hfz28_1 := blk_frozen BK184.out 1; have hfz28_2 := blk_frozen BK184.out 2; have hfz28_3 := blk_frozen BK184.out 3) | ((with_reducible refine gate_callee (f := 12) rfl ?_); refine goesL_ (some 44) rfl rfl Try.func12 (by kernel_rfl) rfl #[.agg #[.int .u64 x185000_1, .int .u64 x185001_1, .int .u64 x185002_1, .int .u64 x185003_1], .int .u64 t186] rfl (by (try simp only [List.map_toArray, List.map_cons, List.map_nil]); first | done | rfl | (simp only [List.length_drop, List.length_take]; rfl)) ?_; (with_reducible refine (credit_Come.calls x185000_1 x185001_1 x185002_1 x185003_1 t186 t191 t192 t193 t194 t195 _ A17.out).mono ?_); rintro e w29 ⟨rfl, hb⟩; refine ⟨_, rfl, ?_⟩; have n0_ := Aside0.mk (blk_below (g := gb184) (o := .cells #[.int .u64 x185000_1, .int .u64 x185001_1, .int .u64 x185002_1, .int .u64 x185003_1] 27 (0, 0)) (by (with_reducible repeat (first | refine blk_drewN ?_ _ | refine blk_drew ?_ | refine blk_alloc ?_ _)); refine blk_far ?_ NB184_190.out _; (with_reducible repeat (first | refine blk_drewN ?_ _ | refine blk_drew ?_ | refine blk_alloc ?_ _)); refine blk_far ?_ NB184_190.out _; (with_reducible repeat (first | refine blk_drewN ?_ _ | refine blk_drew ?_ | refine blk_alloc ?_ _)); exact BK184.out) hb); have n1_ := Aside0.mk (blk_below (g := gb185) (o := .cells #[.int .u64 x186000_1, .int .u64 x186001_1] 25 (0, 0)) (by (with_reducible repeat (first | refine blk_drewN ?_ _ | refine blk_drew ?_ | refine blk_alloc ?_ _)); refine blk_far ?_ NB185_190.out _; (with_reducible repeat (first | refine blk_drewN ?_ _ | refine blk_drew ?_ | refine blk_alloc ?_ _)); refine blk_far ?_ NB185_190.out _; (with_reducible repeat (first | refine blk_drewN ?_ _ | refine blk_drew ?_ | refine blk_alloc ?_ _)); exact BK185.out) hb); have n2_ := Aside0.mk (blk_below (g := gb190) (o := .cells #[.int .u64 t187, .int .u64 t188] 25 (0, 0)) (by (with_reducible repeat (first | refine blk_drewN ?_ _ | refine blk_drew ?_ | refine blk_alloc ?_ _)); refine blk_put (cs := #[.int .u64 t187, .int .u64 0]) ?_ 1 _ rfl; (with_reducible repeat (first | refine blk_drewN ?_ _ | refine blk_drew ?_ | refine blk_alloc ?_ _)); refine blk_put (cs := #[.int .u64 0, .int .u64 0]) ?_ 0 _ rfl; (with_reducible repeat (first | refine blk_drewN ?_ _ | refine blk_drew ?_ | refine blk_alloc ?_ _)); exact BK190.out) hb); have n3_ := Aside0.mk (below_step (by repeat (first | (with_reducible first | exact HB.out | apply below_alloc | apply pw_below_drewN | apply below_drew1 | refine below_set ?_ GE184.out | refine below_set ?_ GE185.out | refine below_set ?_ GE190.out) | exact HB.out)) hb); clear BK184; clear BK185; clear BK190; clear HB; have BK184 := n0_; have BK185 := n1_; have BK190 := n2_; have HB := n3_; clear n0_ n1_ n2_ n3_; (try clear hb); (try clear hb2); (try clear hk); (try clear hi)) | ((with_reducible refine gate_dst (N := 12) rfl ?_); refine box_event ?hg (N := 12) ?hd (cs := #[.int .u64 0, .int .u64 0, .int .u64 0, .int .u64 0]) (t := 27) ?hr ?_; (case hd => rfl); (case hg => rfl); (case hr => first | (go_simp; done) | (go_simp; rfl)); intro gb196 hg w30 hbox hb; have n0_ := Aside0.mk (blk_below (g := gb184) (o := .cells #[.int .u64 x185000_1, .int .u64 x185001_1, .int .u64 x185002_1, .int .u64 x185003_1] 27 (0, 0)) (by (with_reducible repeat (first | refine blk_drewN ?_ _ | refine blk_drew ?_ | refine blk_alloc ?_ _)); exact BK184.out) hb); have n1_ := Aside0.mk (blk_below (g := gb185) (o := .cells #[.int .u64 x186000_1, .int .u64 x186001_1] 25 (0, 0)) (by (with_reducible repeat (first | refine blk_drewN ?_ _ | refine blk_drew ?_ | refine blk_alloc ?_ _)); exact BK185.out) hb); have n2_ := Aside0.mk (blk_below (g := gb190) (o := .cells #[.int .u64 t187, .int .u64 t188] 25 (0, 0)) (by (with_reducible repeat (first | refine blk_drewN ?_ _ | refine blk_drew ?_ | refine blk_alloc ?_ _)); exact BK190.out) hb); have n3_ := Aside0.mk (below_step (by repeat (first | (with_reducible first | exact HB.out | apply below_alloc | apply pw_below_drewN | apply below_drew1 | refine below_set ?_ GE184.out | refine below_set ?_ GE185.out | refine below_set ?_ GE190.out) | exact HB.out)) hb); have n4_ := Aside0.mk (hbox); have n5_ := Aside0.mk ((by rw [hg]; exact (below_size (by repeat (first | (with_reducible first | exact HB.out | apply below_alloc | apply pw_below_drewN | apply below_drew1 | refine below_set ?_ GE184.out | refine below_set ?_ GE185.out | refine below_set ?_ GE190.out) | exact HB.out))) : w.heap.size ≤ gb196)); have n6_ := Aside0.mk ((by rw [hg]; exact (below_size (by repeat (first | (with_reducible first | exact HB.out | apply below_alloc | apply pw_below_drewN | apply below_drew1 | refine below_set ?_ GE184.out | refine below_set ?_ GE185.out | refine below_set ?_ GE190.out) | exact HB.out))) : w.heap.size ≤ gb196)); have n7_ := Aside0.mk ((by rw [hg]; exact Nat.ne_of_lt (blk_lt (g := gb184) (o := .cells #[.int .u64 x185000_1, .int .u64 x185001_1, .int .u64 x185002_1, .int .u64 x185003_1] 27 (0, 0)) (by (with_reducible repeat (first | refine blk_drewN ?_ _ | refine blk_drew ?_ | refine blk_alloc ?_ _)); exact BK184.out)) : gb184 ≠ gb196)); have n8_ := Aside0.mk ((by rw [hg]; exact Nat.ne_of_gt (blk_lt (g := gb184) (o := .cells #[.int .u64 x185000_1, .int .u64 x185001_1, .int .u64 x185002_1, .int .u64 x185003_1] 27 (0, 0)) (by (with_reducible repeat (first | refine blk_drewN ?_ _ | refine blk_drew ?_ | refine blk_alloc ?_ _)); exact BK184.out)) : gb196 ≠ gb184)); have n9_ := Aside0.mk ((by rw [hg]; exact Nat.ne_of_lt (blk_lt (g := gb185) (o := .cells #[.int .u64 x186000_1, .int .u64 x186001_1] 25 (0, 0)) (by (with_reducible repeat (first | refine blk_drewN ?_ _ | refine blk_drew ?_ | refine blk_alloc ?_ _)); exact BK185.out)) : gb185 ≠ gb196)); have n10_ := Aside0.mk ((by rw [hg]; exact Nat.ne_of_gt (blk_lt (g := gb185) (o := .cells #[.int .u64 x186000_1, .int .u64 x186001_1] 25 (0, 0)) (by (with_reducible repeat (first | refine blk_drewN ?_ _ | refine blk_drew ?_ | refine blk_alloc ?_ _)); exact BK185.out)) : gb196 ≠ gb185)); have n11_ := Aside0.mk ((by rw [hg]; exact Nat.ne_of_lt (blk_lt (g := gb190) (o := .cells #[.int .u64 t187, .int .u64 t188] 25 (0, 0)) (by (with_reducible repeat (first | refine blk_drewN ?_ _ | refine blk_drew ?_ | refine blk_alloc ?_ _)); exact BK190.out)) : gb190 ≠ gb196)); have n12_ := Aside0.mk ((by rw [hg]; exact Nat.ne_of_gt (blk_lt (g := gb190) (o := .cells #[.int .u64 t187, .int .u64 t188] 25 (0, 0)) (by (with_reducible repeat (first | refine blk_drewN ?_ _ | refine blk_drew ?_ | refine blk_alloc ?_ _)); exact BK190.out)) : gb196 ≠ gb190)); clear BK184; clear BK185; clear BK190; clear HB; have BK184 := n0_; have BK185 := n1_; have BK190 := n2_; have HB := n3_; have BK196 := n4_; have GW196 := n5_; have GE196 := n6_; have NB184_196 := n7_; have NB196_184 := n8_; have NB185_196 := n9_; have NB196_185 := n10_; have NB190_196 := n11_; have NB196_190 := n12_; clear n0_ n1_ n2_ n3_ n4_ n5_ n6_ n7_ n8_ n9_ n10_ n11_ n12_; clear hb hbox hg; have hnb31 := NB196_184.out; have hnc31 := NB184_196.out; have hnb32 := NB196_185.out; have hnc32 := NB185_196.out; have hnb33 := NB196_190.out; have hnc33 := NB190_196.out; have hcz34_0 : w30.cell? ⟨gb196, 0, none⟩ = some (.int .u64 0) := (blk_cell BK196.out 0).trans rfl; have hcz34_1 : w30.cell? ⟨gb196, 1, none⟩ = some (.int .u64 0) := (blk_cell BK196.out 1).trans rfl; have hcz34_2 : w30.cell? ⟨gb196, 2, none⟩ = some (.int .u64 0) := (blk_cell BK196.out 2).trans rfl; have hcz34_3 : w30.cell? ⟨gb196, 3, none⟩ = some (.int .u64 0) := (blk_cell BK196.out 3).trans rfl; have hfz34_0 := blk_frozen BK196.out 0; have hfz34_1 := blk_frozen BK196.out 1; have hfz34_2 := blk_frozen BK196.out 2; have hfz34_3 := blk_frozen BK196.out 3))
            (try simp only [Act.put, List.setIfInBounds_toArray, List.set_cons_zero, List.set_cons_succ])
            go_cut [52] (fun v52 wc => ∃ (kq : Nat) (x52_17 : Bool), v52 = .bool x52_17 ∧ Aside0 (wigwaglaw19_CreditMeets.j2 kq a0 l1 t179 x8_1 x52_17 t187 t188 t191 t192 t193 t194 = some r) ∧ Aside0 (kq ≤ kj11) ∧ Aside0 (wc.heap[gb184]? = some (.cells #[.int .u64 x185000_1, .int .u64 x185001_1, .int .u64 x185002_1, .int .u64 x185003_1] 27 (0, 0))) ∧ Aside0 (wc.heap[gb185]? = some (.cells #[.int .u64 x186000_1, .int .u64 x186001_1] 25 (0, 0))) ∧ Aside0 (wc.heap[gb190]? = some (.cells #[.int .u64 t187, .int .u64 t188] 25 (0, 0))) ∧ Aside0 (wc.heap[gb196]? = some (.cells #[.int .u64 t191, .int .u64 t192, .int .u64 t193, .int .u64 t194] 27 (0, 0))) ∧ Aside0 (Below w.heap.size w wc))
            case first =>
              have H := HC18.out
              clear HC18
              by_cases c35 : t189 = true
              · subst c35
                have H1 : (wigwaglaw19_CreditMeets.j2 kj11 a0 l1 t179 x8_1 (t195 != 0) t187 t188 t191 t192 t193 t194) = some r := by rw [if_pos rfl] at H; exact H
                clear H
                have H := H1
                clear H1
                have H' := Aside0.mk H
                clear H
                go_wp2
                go_meet
                case rel => exact ⟨_, ((t195 != 0)), (by first | rfl | (simp; done) | (simp [*]; done)), H', ⟨by have := HK1.out; have := HJ11.out; first | omega | exact Nat.le_refl _⟩, ⟨by (with_reducible repeat (first | refine blk_drewN ?_ _ | refine blk_drew ?_ | refine blk_alloc ?_ _)); refine blk_far ?_ NB184_196.out _; (with_reducible repeat (first | refine blk_drewN ?_ _ | refine blk_drew ?_ | refine blk_alloc ?_ _)); refine blk_far ?_ NB184_196.out _; (with_reducible repeat (first | refine blk_drewN ?_ _ | refine blk_drew ?_ | refine blk_alloc ?_ _)); refine blk_far ?_ NB184_196.out _; (with_reducible repeat (first | refine blk_drewN ?_ _ | refine blk_drew ?_ | refine blk_alloc ?_ _)); refine blk_far ?_ NB184_196.out _; (with_reducible repeat (first | refine blk_drewN ?_ _ | refine blk_drew ?_ | refine blk_alloc ?_ _)); exact BK184.out⟩, ⟨by (with_reducible repeat (first | refine blk_drewN ?_ _ | refine blk_drew ?_ | refine blk_alloc ?_ _)); refine blk_far ?_ NB185_196.out _; (with_reducible repeat (first | refine blk_drewN ?_ _ | refine blk_drew ?_ | refine blk_alloc ?_ _)); refine blk_far ?_ NB185_196.out _; (with_reducible repeat (first | refine blk_drewN ?_ _ | refine blk_drew ?_ | refine blk_alloc ?_ _)); refine blk_far ?_ NB185_196.out _; (with_reducible repeat (first | refine blk_drewN ?_ _ | refine blk_drew ?_ | refine blk_alloc ?_ _)); refine blk_far ?_ NB185_196.out _; (with_reducible repeat (first | refine blk_drewN ?_ _ | refine blk_drew ?_ | refine blk_alloc ?_ _)); exact BK185.out⟩, ⟨by (with_reducible repeat (first | refine blk_drewN ?_ _ | refine blk_drew ?_ | refine blk_alloc ?_ _)); refine blk_far ?_ NB190_196.out _; (with_reducible repeat (first | refine blk_drewN ?_ _ | refine blk_drew ?_ | refine blk_alloc ?_ _)); refine blk_far ?_ NB190_196.out _; (with_reducible repeat (first | refine blk_drewN ?_ _ | refine blk_drew ?_ | refine blk_alloc ?_ _)); refine blk_far ?_ NB190_196.out _; (with_reducible repeat (first | refine blk_drewN ?_ _ | refine blk_drew ?_ | refine blk_alloc ?_ _)); refine blk_far ?_ NB190_196.out _; (with_reducible repeat (first | refine blk_drewN ?_ _ | refine blk_drew ?_ | refine blk_alloc ?_ _)); exact BK190.out⟩, ⟨by (with_reducible repeat (first | refine blk_drewN ?_ _ | refine blk_drew ?_ | refine blk_alloc ?_ _)); refine blk_put (cs := #[.int .u64 t191, .int .u64 t192, .int .u64 t193, .int .u64 0]) ?_ 3 _ rfl; (with_reducible repeat (first | refine blk_drewN ?_ _ | refine blk_drew ?_ | refine blk_alloc ?_ _)); refine blk_put (cs := #[.int .u64 t191, .int .u64 t192, .int .u64 0, .int .u64 0]) ?_ 2 _ rfl; (with_reducible repeat (first | refine blk_drewN ?_ _ | refine blk_drew ?_ | refine blk_alloc ?_ _)); refine blk_put (cs := #[.int .u64 t191, .int .u64 0, .int .u64 0, .int .u64 0]) ?_ 1 _ rfl; (with_reducible repeat (first | refine blk_drewN ?_ _ | refine blk_drew ?_ | refine blk_alloc ?_ _)); refine blk_put (cs := #[.int .u64 0, .int .u64 0, .int .u64 0, .int .u64 0]) ?_ 0 _ rfl; (with_reducible repeat (first | refine blk_drewN ?_ _ | refine blk_drew ?_ | refine blk_alloc ?_ _)); exact BK196.out⟩, ⟨by repeat (first | (with_reducible first | exact HB.out | apply below_alloc | apply pw_below_drewN | apply below_drew1 | refine below_set ?_ GE184.out | refine below_set ?_ GE185.out | refine below_set ?_ GE190.out | refine below_set ?_ GE196.out) | exact HB.out)⟩⟩
              · replace c35 := Bool.eq_false_iff.mpr c35
                subst c35
                have H1 : (wigwaglaw19_CreditMeets.j2 kj11 a0 l1 t179 x8_1 true t187 t188 t191 t192 t193 t194) = some r := by rw [if_neg (show ¬ (false = true) by decide)] at H; exact H
                clear H
                have H := H1
                clear H1
                have H' := Aside0.mk H
                clear H
                go_wp2
                go_meet
                case rel => exact ⟨_, (true), (by first | rfl | (simp; done) | (simp [*]; done)), H', ⟨by have := HK1.out; have := HJ11.out; first | omega | exact Nat.le_refl _⟩, ⟨by (with_reducible repeat (first | refine blk_drewN ?_ _ | refine blk_drew ?_ | refine blk_alloc ?_ _)); refine blk_far ?_ NB184_196.out _; (with_reducible repeat (first | refine blk_drewN ?_ _ | refine blk_drew ?_ | refine blk_alloc ?_ _)); refine blk_far ?_ NB184_196.out _; (with_reducible repeat (first | refine blk_drewN ?_ _ | refine blk_drew ?_ | refine blk_alloc ?_ _)); refine blk_far ?_ NB184_196.out _; (with_reducible repeat (first | refine blk_drewN ?_ _ | refine blk_drew ?_ | refine blk_alloc ?_ _)); refine blk_far ?_ NB184_196.out _; (with_reducible repeat (first | refine blk_drewN ?_ _ | refine blk_drew ?_ | refine blk_alloc ?_ _)); exact BK184.out⟩, ⟨by (with_reducible repeat (first | refine blk_drewN ?_ _ | refine blk_drew ?_ | refine blk_alloc ?_ _)); refine blk_far ?_ NB185_196.out _; (with_reducible repeat (first | refine blk_drewN ?_ _ | refine blk_drew ?_ | refine blk_alloc ?_ _)); refine blk_far ?_ NB185_196.out _; (with_reducible repeat (first | refine blk_drewN ?_ _ | refine blk_drew ?_ | refine blk_alloc ?_ _)); refine blk_far ?_ NB185_196.out _; (with_reducible repeat (first | refine blk_drewN ?_ _ | refine blk_drew ?_ | refine blk_alloc ?_ _)); refine blk_far ?_ NB185_196.out _; (with_reducible repeat (first | refine blk_drewN ?_ _ | refine blk_drew ?_ | refine blk_alloc ?_ _)); exact BK185.out⟩, ⟨by (with_reducible repeat (first | refine blk_drewN ?_ _ | refine blk_drew ?_ | refine blk_alloc ?_ _)); refine blk_far ?_ NB190_196.out _; (with_reducible repeat (first | refine blk_drewN ?_ _ | refine blk_drew ?_ | refine blk_alloc ?_ _)); refine blk_far ?_ NB190_196.out _; (with_reducible repeat (first | refine blk_drewN ?_ _ | refine blk_drew ?_ | refine blk_alloc ?_ _)); refine blk_far ?_ NB190_196.out _; (with_reducible repeat (first | refine blk_drewN ?_ _ | refine blk_drew ?_ | refine blk_alloc ?_ _)); refine blk_far ?_ NB190_196.out _; (with_reducible repeat (first | refine blk_drewN ?_ _ | refine blk_drew ?_ | refine blk_alloc ?_ _)); exact BK190.out⟩, ⟨by (with_reducible repeat (first | refine blk_drewN ?_ _ | refine blk_drew ?_ | refine blk_alloc ?_ _)); refine blk_put (cs := #[.int .u64 t191, .int .u64 t192, .int .u64 t193, .int .u64 0]) ?_ 3 _ rfl; (with_reducible repeat (first | refine blk_drewN ?_ _ | refine blk_drew ?_ | refine blk_alloc ?_ _)); refine blk_put (cs := #[.int .u64 t191, .int .u64 t192, .int .u64 0, .int .u64 0]) ?_ 2 _ rfl; (with_reducible repeat (first | refine blk_drewN ?_ _ | refine blk_drew ?_ | refine blk_alloc ?_ _)); refine blk_put (cs := #[.int .u64 t191, .int .u64 0, .int .u64 0, .int .u64 0]) ?_ 1 _ rfl; (with_reducible repeat (first | refine blk_drewN ?_ _ | refine blk_drew ?_ | refine blk_alloc ?_ _)); refine blk_put (cs := #[.int .u64 0, .int .u64 0, .int .u64 0, .int .u64 0]) ?_ 0 _ rfl; (with_reducible repeat (first | refine blk_drewN ?_ _ | refine blk_drew ?_ | refine blk_alloc ?_ _)); exact BK196.out⟩, ⟨by repeat (first | (with_reducible first | exact HB.out | apply below_alloc | apply pw_below_drewN | apply below_drew1 | refine below_set ?_ GE184.out | refine below_set ?_ GE185.out | refine below_set ?_ GE190.out | refine below_set ?_ GE196.out) | exact HB.out)⟩⟩
            case rest =>
              clear HC18
              try clear c1
              try clear c2
              try clear p2
              try clear c3
              try clear c6
              try clear c9
              try clear c10
              try clear c12
              try clear c13
              try clear c13b0
              try clear c14
              try clear c16
              try clear c19
              try clear c20
              try clear c25
              try clear c26
              try clear c31
              try clear c32
              try clear c33
              try clear c35
              try clear hcz11_0
              try clear hcz11_1
              try clear hcz20_0
              try clear hcz20_1
              try clear hcz22_0
              try clear hcz22_1
              try clear hcz27_0
              try clear hcz27_1
              try clear hcz28_0
              try clear hcz28_1
              try clear hcz28_2
              try clear hcz28_3
              try clear hcz34_0
              try clear hcz34_1
              try clear hcz34_2
              try clear hcz34_3
              try clear hcz8_0
              try clear hcz8_1
              try clear hcz8_2
              try clear hcz8_3
              try clear hfz11_0
              try clear hfz11_1
              try clear hfz20_0
              try clear hfz20_1
              try clear hfz22_0
              try clear hfz22_1
              try clear hfz27_0
              try clear hfz27_1
              try clear hfz28_0
              try clear hfz28_1
              try clear hfz28_2
              try clear hfz28_3
              try clear hfz34_0
              try clear hfz34_1
              try clear hfz34_2
              try clear hfz34_3
              try clear hfz8_0
              try clear hfz8_1
              try clear hfz8_2
              try clear hfz8_3
              try clear p2
              obtain ⟨kq, x52_17, rfl, HA, HJ17, BK184, BK185, BK190, BK196, HB⟩ := hcut
              cases kq with
              | zero => exact absurd HA.out (by simp [wigwaglaw19_CreditMeets.j2])
              | succ kj17 =>
                have H := HA.out
                clear HA
                simp only [wigwaglaw19_CreditMeets.j2] at H
                by_cases c36 : x52_17 = true
                · subst c36
                  have H1 : (some false) = some r := by rw [if_pos rfl] at H; exact H
                  clear H
                  have H := H1
                  clear H1
                  obtain rfl := Option.some.inj H
                  go_wp2
                  go_ret
                  exact ⟨by first | rfl | (simp [errW_none, errW_some] <;> rfl) | (simp [*, errW_none, errW_some] <;> rfl), by repeat (first | (with_reducible first | exact HB.out | apply below_alloc | apply pw_below_drewN | apply below_drew1 | refine below_set ?_ GE184.out | refine below_set ?_ GE185.out | refine below_set ?_ GE190.out | refine below_set ?_ GE196.out) | exact HB.out)⟩
                · replace c36 := Bool.eq_false_iff.mpr c36
                  subst c36
                  have H1 : (if 0 ≤ x8_1 then (if x8_1 < (l1.length : Int) then ((credit_Read.f t191 t192 t193 t194 (IntKind.u64.wrap (rd l1 x8_1))).bind fun bt198 => (if bt198.1 < t191 then (wigwaglaw19_CreditMeets.j3 kj17 a0 l1 t179 x8_1 true t187 t188 bt198.1 bt198.2.1 bt198.2.2.1 bt198.2.2.2.1) else (if (bt198.2.2.2.2 != (decide (bt198.1 > t191))) = true then (wigwaglaw19_CreditMeets.j3 kj17 a0 l1 t179 x8_1 true t187 t188 bt198.1 bt198.2.1 bt198.2.2.1 bt198.2.2.2.1) else (if bt198.2.2.1 > bt198.2.1 then (wigwaglaw19_CreditMeets.j3 kj17 a0 l1 t179 x8_1 true t187 t188 bt198.1 bt198.2.1 bt198.2.2.1 bt198.2.2.2.1) else (if bt198.2.1 > bt198.1 then (wigwaglaw19_CreditMeets.j3 kj17 a0 l1 t179 x8_1 true t187 t188 bt198.1 bt198.2.1 bt198.2.2.1 bt198.2.2.2.1) else (wigwaglaw19_CreditMeets.j3 kj17 a0 l1 t179 x8_1 (decide ((IntKind.u64.wrap (bt198.1 - bt198.2.2.1)) < (IntKind.u64.wrap (Int.tdiv (IntKind.u64.wrap (a0)) 2)))) t187 t188 bt198.1 bt198.2.1 bt198.2.2.1 bt198.2.2.2.1)))))) else (none)) else (none)) = some r := by rw [if_neg (show ¬ (false = true) by decide)] at H; exact H
                  clear H
                  have H := H1
                  clear H1
                  by_cases c37 : 0 ≤ x8_1
                  · rw [if_pos c37] at H
                    have c37b0 : decide (0 ≤ x8_1) = true := decide_eq_true c37
                    clear c37
                    by_cases c38 : x8_1 < (l1.length : Int)
                    · rw [if_pos c38] at H
                      have c38b0 : decide (x8_1 < (l1.length : Int)) = true := decide_eq_true c38
                      clear c38
                      replace H := Option.bind_eq_some_iff.mp H
                      obtain ⟨⟨t198, t199, t200, t201, t202⟩, A390, H⟩ := H
                      replace H : (if t198 < t191 then (wigwaglaw19_CreditMeets.j3 kj17 a0 l1 t179 x8_1 true t187 t188 t198 t199 t200 t201) else (if (t202 != (decide (t198 > t191))) = true then (wigwaglaw19_CreditMeets.j3 kj17 a0 l1 t179 x8_1 true t187 t188 t198 t199 t200 t201) else (if t200 > t199 then (wigwaglaw19_CreditMeets.j3 kj17 a0 l1 t179 x8_1 true t187 t188 t198 t199 t200 t201) else (if t199 > t198 then (wigwaglaw19_CreditMeets.j3 kj17 a0 l1 t179 x8_1 true t187 t188 t198 t199 t200 t201) else (wigwaglaw19_CreditMeets.j3 kj17 a0 l1 t179 x8_1 (decide ((IntKind.u64.wrap (t198 - t200)) < (IntKind.u64.wrap (Int.tdiv (IntKind.u64.wrap (a0)) 2)))) t187 t188 t198 t199 t200 t201))))) = some r := H
                      have A39 := Aside0.mk A390
                      clear A390
                      have HC40 := Aside0.mk H
                      clear H
                      try go_wp2
                      have n0_ := Aside0.mk (blk_drew BK184.out)
                      have n1_ := Aside0.mk (blk_drew BK185.out)
                      have n2_ := Aside0.mk (blk_drew BK190.out)
                      have n3_ := Aside0.mk (blk_drew BK196.out)
                      have n4_ := Aside0.mk (below_drew1 HB.out)
                      clear BK184
                      clear BK185
                      clear BK190
                      clear BK196
                      clear HB
                      have BK184 := n0_
                      have BK185 := n1_
                      have BK190 := n2_
                      have BK196 := n3_
                      have HB := n4_
                      clear n0_ n1_ n2_ n3_ n4_
                      have p197 : 0 ≤ (x8_1 : Int) := of_decide_eq_true (by first | (with_reducible assumption) | assumption)
                      have q197 : x8_1 < (l1.length : Int) := of_decide_eq_true (by first | (with_reducible assumption) | assumption)
                      obtain ⟨ad197, e197, hx197_0⟩ := Kd.at_int HR1.out x8_1 p197 q197
                      have hw197_0 := hx197_0
                      cases e197
                      replace hx197_0 := (HB.out.cell (World.block_lt_of_cell? w _ hx197_0)).trans hx197_0
                      replace p197 := eq_true p197
                      replace q197 := eq_true q197
                      refine start_ (n := 13) (S := fun w' => w'.cell? ⟨gb196, 0, none⟩ = some (.int .u64 t191) ∧ w'.cell? ⟨gb196, 1, none⟩ = some (.int .u64 t192) ∧ w'.cell? ⟨gb196, 2, none⟩ = some (.int .u64 t193) ∧ w'.cell? ⟨gb196, 3, none⟩ = some (.int .u64 t194) ∧ w'.cell? (ad197.add (x8_1).toNat) = some (.int .u32 (rd l1 x8_1))) (ds := []) #[false, false, false, false, false, false, false, false, false, false, false, false, false] (by kernel_rfl) rfl rfl ⟨(blk_cell BK196.out 0).trans rfl, (blk_cell BK196.out 1).trans rfl, (blk_cell BK196.out 2).trans rfl, (blk_cell BK196.out 3).trans rfl, ((HB.out.cell (World.block_lt_of_cell? w _ hw197_0)).trans hw197_0)⟩ (fun hHeld => ?_); refine with_tabW wigwaglaw19_CreditMeets.tab12 wigwaglaw19_CreditMeets.bits12 (fun HT_ HW_ => ?_)
                      generalize wc.drew = w41 at BK184 BK185 BK190 BK196 HB hx197_0 hHeld ⊢
                      refine pure_ (i := 1) (N := some 55) (v := ?_) (a' := ?_) #[false, true, false, false, false, false, false, false, false, false, false, false, false] rfl rfl (any_of HT_.out (by kernel_rfl)) (fun _ _ _ h => h) (Or.inl ⟨by rfl, ?_⟩) ?_ ?_
                      rotate_left
                      · intro w'
                        go_simp
                        with_reducible rfl
                      rotate_left
                      · simp only [Act.put, List.setIfInBounds_toArray, List.set_cons_zero, List.set_cons_succ, i64_w, i32_w]
                        rfl
                      refine pure_ (i := 2) (N := some 56) (v := ?_) (a' := ?_) #[false, true, true, false, false, false, false, false, false, false, false, false, false] rfl rfl (any_of HT_.out (by kernel_rfl)) (fun _ _ _ h => h) (Or.inl ⟨by rfl, ?_⟩) ?_ ?_
                      rotate_left
                      · intro w'
                        go_simp
                        with_reducible rfl
                      rotate_left
                      · simp only [Act.put, List.setIfInBounds_toArray, List.set_cons_zero, List.set_cons_succ, i64_w, i32_w]
                        rfl
                      refine pure_ (i := 3) (N := some 57) (v := ?_) (a' := ?_) #[false, true, true, true, false, false, false, false, false, false, false, false, false] rfl rfl (any_of HT_.out (by kernel_rfl)) (fun _ _ _ h => h) (Or.inl ⟨by rfl, ?_⟩) ?_ ?_
                      rotate_left
                      · intro w'
                        go_simp
                        with_reducible rfl
                      rotate_left
                      · simp only [Act.put, List.setIfInBounds_toArray, List.set_cons_zero, List.set_cons_succ, i64_w, i32_w]
                        rfl
                      refine take_ (i := 0) (N := some 54) (v := ?_) (a' := ?_) #[true, true, true, true, false, false, false, false, false, false, false, false, false] rfl rfl (take_ofW HT_.out HW_.out (by kernel_rfl)) (fun _ _ _ h => h) (Or.inl ⟨by rfl, ?_⟩) hHeld ?_ ?_
                      rotate_left
                      · rintro w' ⟨s0, s1, s2, s3, s4⟩
                        go_simp
                        with_reducible rfl
                      rotate_left
                      · simp only [Act.put, List.setIfInBounds_toArray, List.set_cons_zero, List.set_cons_succ, i64_w, i32_w]
                        rfl
                      refine take_ (i := 4) (N := some 58) (v := ?_) (a' := ?_) #[true, true, true, true, true, false, false, false, false, false, false, false, false] rfl rfl (take_ofW HT_.out HW_.out (by kernel_rfl)) (fun _ _ _ h => h) (Or.inl ⟨by rfl, ?_⟩) hHeld ?_ ?_
                      rotate_left
                      · rintro w' ⟨s0, s1, s2, s3, s4⟩
                        go_simp
                        with_reducible rfl
                      rotate_left
                      · simp only [Act.put, List.setIfInBounds_toArray, List.set_cons_zero, List.set_cons_succ, i64_w, i32_w]
                        rfl
                      refine pure_ (i := 5) (N := some 59) (v := ?_) (a' := ?_) #[true, true, true, true, true, true, false, false, false, false, false, false, false] rfl rfl (any_of HT_.out (by kernel_rfl)) (fun _ _ _ h => h) (Or.inl ⟨by rfl, ?_⟩) ?_ ?_
                      rotate_left
                      · intro w'
                        go_simp
                        with_reducible rfl
                      rotate_left
                      · simp only [Act.put, List.setIfInBounds_toArray, List.set_cons_zero, List.set_cons_succ, i64_w, i32_w]
                        rfl
                      refine join_ (σ := Nat) 2 #[true, true, true, true, true, true, true, true, true, true, true, false, false] (fun s_ => [(60, .tuple #[.agg #[.int .u64 t198, .int .u64 t199, .int .u64 t200, .int .u64 t201], .bool t202]), (14, .pointer (some ⟨s_, 0, none⟩)), (53, .tuple #[.agg #[.int .u64 t198, .int .u64 t199, .int .u64 t200, .int .u64 t201], .bool t202]), (61, .agg #[.int .u64 t198, .int .u64 t199, .int .u64 t200, .int .u64 t201]), (62, .bool t202)]) (fun s_ w' => (w'.cell? ⟨gb196, 0, none⟩ = some (.int .u64 t191) ∧ w'.cell? ⟨gb196, 1, none⟩ = some (.int .u64 t192) ∧ w'.cell? ⟨gb196, 2, none⟩ = some (.int .u64 t193) ∧ w'.cell? ⟨gb196, 3, none⟩ = some (.int .u64 t194) ∧ w'.cell? (ad197.add (x8_1).toNat) = some (.int .u32 (rd l1 x8_1))) ∧ (w'.heap[gb184]? = some (.cells #[.int .u64 x185000_1, .int .u64 x185001_1, .int .u64 x185002_1, .int .u64 x185003_1] 27 (0, 0))) ∧ (w'.heap[gb185]? = some (.cells #[.int .u64 x186000_1, .int .u64 x186001_1] 25 (0, 0))) ∧ (w'.heap[gb190]? = some (.cells #[.int .u64 t187, .int .u64 t188] 25 (0, 0))) ∧ (w'.heap[gb196]? = some (.cells #[.int .u64 t191, .int .u64 t192, .int .u64 t193, .int .u64 t194] 27 (0, 0))) ∧ (w'.heap[s_]? = some (.cells #[.int .u64 0, .int .u64 0, .int .u64 0, .int .u64 0] 27 (0, 0))) ∧ (w.heap.size ≤ s_) ∧ (w.heap.size ≤ s_) ∧ (gb184 ≠ s_) ∧ (s_ ≠ gb184) ∧ (gb185 ≠ s_) ∧ (s_ ≠ gb185) ∧ (gb190 ≠ s_) ∧ (s_ ≠ gb190) ∧ (gb196 ≠ s_) ∧ (s_ ≠ gb196) ∧ (Below w.heap.size w w')) ?_ ?_
                      rotate_left
                      · intro hCont
                        refine two_ (i := 6) (j := 10) (Ni := some 60) (Nj := some 14) #[true, true, true, true, true, true, true, false, false, false, false, false, false] #[true, true, true, true, true, true, false, false, false, false, true, false, false] rfl rfl rfl rfl (two_of HT_.out (by kernel_rfl)) (by decide) (by decide) (fun K hK => ?_) (fun K hK => ?_)
                        · skip
                          refine goes_ Try.func14 (by kernel_rfl) rfl #[.agg #[.int .u64 t191, .int .u64 t192, .int .u64 t193, .int .u64 t194], .int .u64 (IntKind.u64.wrap (rd l1 x8_1))] (by rfl) rfl rfl (by (try simp only [List.map_toArray, List.map_cons, List.map_nil]); first | done | rfl | (simp only [List.length_drop, List.length_take]; rfl)) ?_
                          with_reducible refine (credit_Read.calls t191 t192 t193 t194 (IntKind.u64.wrap (rd l1 x8_1)) t198 t199 t200 t201 t202 _ A39.out).mono ?_
                          rintro e w42 ⟨rfl, hb⟩
                          refine ⟨_, rfl, ?_⟩
                          have n0_ := Aside0.mk (blk_below (g := gb184) (o := .cells #[.int .u64 x185000_1, .int .u64 x185001_1, .int .u64 x185002_1, .int .u64 x185003_1] 27 (0, 0)) (by (with_reducible repeat (first | refine blk_drewN ?_ _ | refine blk_drew ?_ | refine blk_alloc ?_ _)); exact BK184.out) hb)
                          have n1_ := Aside0.mk (blk_below (g := gb185) (o := .cells #[.int .u64 x186000_1, .int .u64 x186001_1] 25 (0, 0)) (by (with_reducible repeat (first | refine blk_drewN ?_ _ | refine blk_drew ?_ | refine blk_alloc ?_ _)); exact BK185.out) hb)
                          have n2_ := Aside0.mk (blk_below (g := gb190) (o := .cells #[.int .u64 t187, .int .u64 t188] 25 (0, 0)) (by (with_reducible repeat (first | refine blk_drewN ?_ _ | refine blk_drew ?_ | refine blk_alloc ?_ _)); exact BK190.out) hb)
                          have n3_ := Aside0.mk (blk_below (g := gb196) (o := .cells #[.int .u64 t191, .int .u64 t192, .int .u64 t193, .int .u64 t194] 27 (0, 0)) (by (with_reducible repeat (first | refine blk_drewN ?_ _ | refine blk_drew ?_ | refine blk_alloc ?_ _)); exact BK196.out) hb)
                          have n4_ := Aside0.mk (below_step (by repeat (first | (with_reducible first | exact HB.out | apply below_alloc | apply pw_below_drewN | apply below_drew1 | refine below_set ?_ GE184.out | refine below_set ?_ GE185.out | refine below_set ?_ GE190.out | refine below_set ?_ GE196.out) | exact HB.out)) hb)
                          clear BK184
                          clear BK185
                          clear BK190
                          clear BK196
                          clear HB
                          have BK184 := n0_
                          have BK185 := n1_
                          have BK190 := n2_
                          have BK196 := n3_
                          have HB := n4_
                          clear n0_ n1_ n2_ n3_ n4_
                          (try clear hb)
                          (try clear hb2)
                          (try clear hk)
                          (try clear hi)
                          refine hK.out _ _ ⟨(blk_cell BK196.out 0).trans rfl, (blk_cell BK196.out 1).trans rfl, (blk_cell BK196.out 2).trans rfl, (blk_cell BK196.out 3).trans rfl, ((HB.out.cell (World.block_lt_of_cell? w _ hw197_0)).trans hw197_0)⟩ (fun hHeld => ?_)
                          clear hK K
                          refine norm_ (a' := ?_) ?_ ?_
                          rotate_left
                          · show Act.put _ (some 60) _ = _
                            simp only [Act.put, List.setIfInBounds_toArray, List.set_cons_zero, List.set_cons_succ, i64_w, i32_w]
                            rfl
                          refine pure_ (i := 7) (N := some 53) (v := ?_) (a' := ?_) #[true, true, true, true, true, true, true, true, false, false, false, false, false] rfl rfl (any_of HT_.out (by kernel_rfl)) (fun _ _ _ h => h) (Or.inl ⟨by rfl, ?_⟩) ?_ ?_
                          rotate_left
                          · intro w'
                            go_simp
                            with_reducible rfl
                          rotate_left
                          · simp only [Act.put, List.setIfInBounds_toArray, List.set_cons_zero, List.set_cons_succ, i64_w, i32_w]
                            rfl
                          refine pure_ (i := 8) (N := some 61) (v := ?_) (a' := ?_) #[true, true, true, true, true, true, true, true, true, false, false, false, false] rfl rfl (any_of HT_.out (by kernel_rfl)) (fun _ _ _ h => h) (Or.inl ⟨by rfl, ?_⟩) ?_ ?_
                          rotate_left
                          · intro w'
                            go_simp
                            with_reducible rfl
                          rotate_left
                          · simp only [Act.put, List.setIfInBounds_toArray, List.set_cons_zero, List.set_cons_succ, i64_w, i32_w]
                            rfl
                          refine pure_ (i := 9) (N := some 62) (v := ?_) (a' := ?_) #[true, true, true, true, true, true, true, true, true, true, false, false, false] rfl rfl (any_of HT_.out (by kernel_rfl)) (fun _ _ _ h => h) (Or.inl ⟨by rfl, ?_⟩) ?_ ?_
                          rotate_left
                          · intro w'
                            go_simp
                            with_reducible rfl
                          rotate_left
                          · simp only [Act.put, List.setIfInBounds_toArray, List.set_cons_zero, List.set_cons_succ, i64_w, i32_w]
                            rfl
                          refine one_ (i := 10) (N := some 14) #[true, true, true, true, true, true, true, true, true, true, true, false, false] rfl rfl (one_of HT_.out (by kernel_rfl)) (by decide) (fun K hK => ?_)
                          refine box_step ?hg (N := 14) ?hd (cs := #[.int .u64 0, .int .u64 0, .int .u64 0, .int .u64 0]) (t := 27) ?hr ?_; (case hd => rfl); (case hg => rfl); (case hr => first | (go_simp; done) | (go_simp; rfl))
                          intro gb203 hg w43 hbox hb
                          have n0_ := Aside0.mk (blk_below (g := gb184) (o := .cells #[.int .u64 x185000_1, .int .u64 x185001_1, .int .u64 x185002_1, .int .u64 x185003_1] 27 (0, 0)) (by (with_reducible repeat (first | refine blk_drewN ?_ _ | refine blk_drew ?_ | refine blk_alloc ?_ _)); exact BK184.out) hb)
                          have n1_ := Aside0.mk (blk_below (g := gb185) (o := .cells #[.int .u64 x186000_1, .int .u64 x186001_1] 25 (0, 0)) (by (with_reducible repeat (first | refine blk_drewN ?_ _ | refine blk_drew ?_ | refine blk_alloc ?_ _)); exact BK185.out) hb)
                          have n2_ := Aside0.mk (blk_below (g := gb190) (o := .cells #[.int .u64 t187, .int .u64 t188] 25 (0, 0)) (by (with_reducible repeat (first | refine blk_drewN ?_ _ | refine blk_drew ?_ | refine blk_alloc ?_ _)); exact BK190.out) hb)
                          have n3_ := Aside0.mk (blk_below (g := gb196) (o := .cells #[.int .u64 t191, .int .u64 t192, .int .u64 t193, .int .u64 t194] 27 (0, 0)) (by (with_reducible repeat (first | refine blk_drewN ?_ _ | refine blk_drew ?_ | refine blk_alloc ?_ _)); exact BK196.out) hb)
                          have n4_ := Aside0.mk (below_step (by repeat (first | (with_reducible first | exact HB.out | apply below_alloc | apply pw_below_drewN | apply below_drew1 | refine below_set ?_ GE184.out | refine below_set ?_ GE185.out | refine below_set ?_ GE190.out | refine below_set ?_ GE196.out) | exact HB.out)) hb)
                          have n5_ := Aside0.mk (hbox)
                          have n6_ := Aside0.mk ((by rw [hg]; exact (below_size (by repeat (first | (with_reducible first | exact HB.out | apply below_alloc | apply pw_below_drewN | apply below_drew1 | refine below_set ?_ GE184.out | refine below_set ?_ GE185.out | refine below_set ?_ GE190.out | refine below_set ?_ GE196.out) | exact HB.out))) : w.heap.size ≤ gb203))
                          have n7_ := Aside0.mk ((by rw [hg]; exact (below_size (by repeat (first | (with_reducible first | exact HB.out | apply below_alloc | apply pw_below_drewN | apply below_drew1 | refine below_set ?_ GE184.out | refine below_set ?_ GE185.out | refine below_set ?_ GE190.out | refine below_set ?_ GE196.out) | exact HB.out))) : w.heap.size ≤ gb203))
                          have n8_ := Aside0.mk ((by rw [hg]; exact Nat.ne_of_lt (blk_lt (g := gb184) (o := .cells #[.int .u64 x185000_1, .int .u64 x185001_1, .int .u64 x185002_1, .int .u64 x185003_1] 27 (0, 0)) (by (with_reducible repeat (first | refine blk_drewN ?_ _ | refine blk_drew ?_ | refine blk_alloc ?_ _)); exact BK184.out)) : gb184 ≠ gb203))
                          have n9_ := Aside0.mk ((by rw [hg]; exact Nat.ne_of_gt (blk_lt (g := gb184) (o := .cells #[.int .u64 x185000_1, .int .u64 x185001_1, .int .u64 x185002_1, .int .u64 x185003_1] 27 (0, 0)) (by (with_reducible repeat (first | refine blk_drewN ?_ _ | refine blk_drew ?_ | refine blk_alloc ?_ _)); exact BK184.out)) : gb203 ≠ gb184))
                          have n10_ := Aside0.mk ((by rw [hg]; exact Nat.ne_of_lt (blk_lt (g := gb185) (o := .cells #[.int .u64 x186000_1, .int .u64 x186001_1] 25 (0, 0)) (by (with_reducible repeat (first | refine blk_drewN ?_ _ | refine blk_drew ?_ | refine blk_alloc ?_ _)); exact BK185.out)) : gb185 ≠ gb203))
                          have n11_ := Aside0.mk ((by rw [hg]; exact Nat.ne_of_gt (blk_lt (g := gb185) (o := .cells #[.int .u64 x186000_1, .int .u64 x186001_1] 25 (0, 0)) (by (with_reducible repeat (first | refine blk_drewN ?_ _ | refine blk_drew ?_ | refine blk_alloc ?_ _)); exact BK185.out)) : gb203 ≠ gb185))
                          have n12_ := Aside0.mk ((by rw [hg]; exact Nat.ne_of_lt (blk_lt (g := gb190) (o := .cells #[.int .u64 t187, .int .u64 t188] 25 (0, 0)) (by (with_reducible repeat (first | refine blk_drewN ?_ _ | refine blk_drew ?_ | refine blk_alloc ?_ _)); exact BK190.out)) : gb190 ≠ gb203))
                          have n13_ := Aside0.mk ((by rw [hg]; exact Nat.ne_of_gt (blk_lt (g := gb190) (o := .cells #[.int .u64 t187, .int .u64 t188] 25 (0, 0)) (by (with_reducible repeat (first | refine blk_drewN ?_ _ | refine blk_drew ?_ | refine blk_alloc ?_ _)); exact BK190.out)) : gb203 ≠ gb190))
                          have n14_ := Aside0.mk ((by rw [hg]; exact Nat.ne_of_lt (blk_lt (g := gb196) (o := .cells #[.int .u64 t191, .int .u64 t192, .int .u64 t193, .int .u64 t194] 27 (0, 0)) (by (with_reducible repeat (first | refine blk_drewN ?_ _ | refine blk_drew ?_ | refine blk_alloc ?_ _)); exact BK196.out)) : gb196 ≠ gb203))
                          have n15_ := Aside0.mk ((by rw [hg]; exact Nat.ne_of_gt (blk_lt (g := gb196) (o := .cells #[.int .u64 t191, .int .u64 t192, .int .u64 t193, .int .u64 t194] 27 (0, 0)) (by (with_reducible repeat (first | refine blk_drewN ?_ _ | refine blk_drew ?_ | refine blk_alloc ?_ _)); exact BK196.out)) : gb203 ≠ gb196))
                          clear BK184
                          clear BK185
                          clear BK190
                          clear BK196
                          clear HB
                          have BK184 := n0_
                          have BK185 := n1_
                          have BK190 := n2_
                          have BK196 := n3_
                          have HB := n4_
                          have BK203 := n5_
                          have GW203 := n6_
                          have GE203 := n7_
                          have NB184_203 := n8_
                          have NB203_184 := n9_
                          have NB185_203 := n10_
                          have NB203_185 := n11_
                          have NB190_203 := n12_
                          have NB203_190 := n13_
                          have NB196_203 := n14_
                          have NB203_196 := n15_
                          clear n0_ n1_ n2_ n3_ n4_ n5_ n6_ n7_ n8_ n9_ n10_ n11_ n12_ n13_ n14_ n15_
                          clear hb hbox hg
                          refine hK.out _ _ ⟨(blk_cell BK196.out 0).trans rfl, (blk_cell BK196.out 1).trans rfl, (blk_cell BK196.out 2).trans rfl, (blk_cell BK196.out 3).trans rfl, ((HB.out.cell (World.block_lt_of_cell? w _ hw197_0)).trans hw197_0)⟩ (fun hHeld => ?_)
                          clear hK K
                          refine norm_ (a' := ?_) ?_ ?_
                          rotate_left
                          · show Act.put _ (some 14) _ = _
                            simp only [Act.put, List.setIfInBounds_toArray, List.set_cons_zero, List.set_cons_succ, i64_w, i32_w]
                            rfl
                          exact norm_ (by simp only [putAll, Act.put, List.setIfInBounds_toArray, List.set_cons_zero, List.set_cons_succ]) (hCont (gb203) _ ⟨hHeld, (by (with_reducible repeat (first | refine blk_drewN ?_ _ | refine blk_drew ?_ | refine blk_alloc ?_ _)); exact BK184.out), (by (with_reducible repeat (first | refine blk_drewN ?_ _ | refine blk_drew ?_ | refine blk_alloc ?_ _)); exact BK185.out), (by (with_reducible repeat (first | refine blk_drewN ?_ _ | refine blk_drew ?_ | refine blk_alloc ?_ _)); exact BK190.out), (by (with_reducible repeat (first | refine blk_drewN ?_ _ | refine blk_drew ?_ | refine blk_alloc ?_ _)); exact BK196.out), (by (with_reducible repeat (first | refine blk_drewN ?_ _ | refine blk_drew ?_ | refine blk_alloc ?_ _)); exact BK203.out), GW203.out, GE203.out, NB184_203.out, NB203_184.out, NB185_203.out, NB203_185.out, NB190_203.out, NB203_190.out, NB196_203.out, NB203_196.out, (by repeat (first | (with_reducible first | exact HB.out | apply below_alloc | apply pw_below_drewN | apply below_drew1 | refine below_set ?_ GE184.out | refine below_set ?_ GE185.out | refine below_set ?_ GE190.out | refine below_set ?_ GE196.out | refine below_set ?_ GE203.out) | exact HB.out))⟩)
                        · skip
                          refine box_step ?hg (N := 14) ?hd (cs := #[.int .u64 0, .int .u64 0, .int .u64 0, .int .u64 0]) (t := 27) ?hr ?_; (case hd => rfl); (case hg => rfl); (case hr => first | (go_simp; done) | (go_simp; rfl))
                          intro gb203 hg w42 hbox hb
                          have n0_ := Aside0.mk (blk_below (g := gb184) (o := .cells #[.int .u64 x185000_1, .int .u64 x185001_1, .int .u64 x185002_1, .int .u64 x185003_1] 27 (0, 0)) (by (with_reducible repeat (first | refine blk_drewN ?_ _ | refine blk_drew ?_ | refine blk_alloc ?_ _)); exact BK184.out) hb)
                          have n1_ := Aside0.mk (blk_below (g := gb185) (o := .cells #[.int .u64 x186000_1, .int .u64 x186001_1] 25 (0, 0)) (by (with_reducible repeat (first | refine blk_drewN ?_ _ | refine blk_drew ?_ | refine blk_alloc ?_ _)); exact BK185.out) hb)
                          have n2_ := Aside0.mk (blk_below (g := gb190) (o := .cells #[.int .u64 t187, .int .u64 t188] 25 (0, 0)) (by (with_reducible repeat (first | refine blk_drewN ?_ _ | refine blk_drew ?_ | refine blk_alloc ?_ _)); exact BK190.out) hb)
                          have n3_ := Aside0.mk (blk_below (g := gb196) (o := .cells #[.int .u64 t191, .int .u64 t192, .int .u64 t193, .int .u64 t194] 27 (0, 0)) (by (with_reducible repeat (first | refine blk_drewN ?_ _ | refine blk_drew ?_ | refine blk_alloc ?_ _)); exact BK196.out) hb)
                          have n4_ := Aside0.mk (below_step (by repeat (first | (with_reducible first | exact HB.out | apply below_alloc | apply pw_below_drewN | apply below_drew1 | refine below_set ?_ GE184.out | refine below_set ?_ GE185.out | refine below_set ?_ GE190.out | refine below_set ?_ GE196.out) | exact HB.out)) hb)
                          have n5_ := Aside0.mk (hbox)
                          have n6_ := Aside0.mk ((by rw [hg]; exact (below_size (by repeat (first | (with_reducible first | exact HB.out | apply below_alloc | apply pw_below_drewN | apply below_drew1 | refine below_set ?_ GE184.out | refine below_set ?_ GE185.out | refine below_set ?_ GE190.out | refine below_set ?_ GE196.out) | exact HB.out))) : w.heap.size ≤ gb203))
                          have n7_ := Aside0.mk ((by rw [hg]; exact (below_size (by repeat (first | (with_reducible first | exact HB.out | apply below_alloc | apply pw_below_drewN | apply below_drew1 | refine below_set ?_ GE184.out | refine below_set ?_ GE185.out | refine below_set ?_ GE190.out | refine below_set ?_ GE196.out) | exact HB.out))) : w.heap.size ≤ gb203))
                          have n8_ := Aside0.mk ((by rw [hg]; exact Nat.ne_of_lt (blk_lt (g := gb184) (o := .cells #[.int .u64 x185000_1, .int .u64 x185001_1, .int .u64 x185002_1, .int .u64 x185003_1] 27 (0, 0)) (by (with_reducible repeat (first | refine blk_drewN ?_ _ | refine blk_drew ?_ | refine blk_alloc ?_ _)); exact BK184.out)) : gb184 ≠ gb203))
                          have n9_ := Aside0.mk ((by rw [hg]; exact Nat.ne_of_gt (blk_lt (g := gb184) (o := .cells #[.int .u64 x185000_1, .int .u64 x185001_1, .int .u64 x185002_1, .int .u64 x185003_1] 27 (0, 0)) (by (with_reducible repeat (first | refine blk_drewN ?_ _ | refine blk_drew ?_ | refine blk_alloc ?_ _)); exact BK184.out)) : gb203 ≠ gb184))
                          have n10_ := Aside0.mk ((by rw [hg]; exact Nat.ne_of_lt (blk_lt (g := gb185) (o := .cells #[.int .u64 x186000_1, .int .u64 x186001_1] 25 (0, 0)) (by (with_reducible repeat (first | refine blk_drewN ?_ _ | refine blk_drew ?_ | refine blk_alloc ?_ _)); exact BK185.out)) : gb185 ≠ gb203))
                          have n11_ := Aside0.mk ((by rw [hg]; exact Nat.ne_of_gt (blk_lt (g := gb185) (o := .cells #[.int .u64 x186000_1, .int .u64 x186001_1] 25 (0, 0)) (by (with_reducible repeat (first | refine blk_drewN ?_ _ | refine blk_drew ?_ | refine blk_alloc ?_ _)); exact BK185.out)) : gb203 ≠ gb185))
                          have n12_ := Aside0.mk ((by rw [hg]; exact Nat.ne_of_lt (blk_lt (g := gb190) (o := .cells #[.int .u64 t187, .int .u64 t188] 25 (0, 0)) (by (with_reducible repeat (first | refine blk_drewN ?_ _ | refine blk_drew ?_ | refine blk_alloc ?_ _)); exact BK190.out)) : gb190 ≠ gb203))
                          have n13_ := Aside0.mk ((by rw [hg]; exact Nat.ne_of_gt (blk_lt (g := gb190) (o := .cells #[.int .u64 t187, .int .u64 t188] 25 (0, 0)) (by (with_reducible repeat (first | refine blk_drewN ?_ _ | refine blk_drew ?_ | refine blk_alloc ?_ _)); exact BK190.out)) : gb203 ≠ gb190))
                          have n14_ := Aside0.mk ((by rw [hg]; exact Nat.ne_of_lt (blk_lt (g := gb196) (o := .cells #[.int .u64 t191, .int .u64 t192, .int .u64 t193, .int .u64 t194] 27 (0, 0)) (by (with_reducible repeat (first | refine blk_drewN ?_ _ | refine blk_drew ?_ | refine blk_alloc ?_ _)); exact BK196.out)) : gb196 ≠ gb203))
                          have n15_ := Aside0.mk ((by rw [hg]; exact Nat.ne_of_gt (blk_lt (g := gb196) (o := .cells #[.int .u64 t191, .int .u64 t192, .int .u64 t193, .int .u64 t194] 27 (0, 0)) (by (with_reducible repeat (first | refine blk_drewN ?_ _ | refine blk_drew ?_ | refine blk_alloc ?_ _)); exact BK196.out)) : gb203 ≠ gb196))
                          clear BK184
                          clear BK185
                          clear BK190
                          clear BK196
                          clear HB
                          have BK184 := n0_
                          have BK185 := n1_
                          have BK190 := n2_
                          have BK196 := n3_
                          have HB := n4_
                          have BK203 := n5_
                          have GW203 := n6_
                          have GE203 := n7_
                          have NB184_203 := n8_
                          have NB203_184 := n9_
                          have NB185_203 := n10_
                          have NB203_185 := n11_
                          have NB190_203 := n12_
                          have NB203_190 := n13_
                          have NB196_203 := n14_
                          have NB203_196 := n15_
                          clear n0_ n1_ n2_ n3_ n4_ n5_ n6_ n7_ n8_ n9_ n10_ n11_ n12_ n13_ n14_ n15_
                          clear hb hbox hg
                          refine hK.out _ _ ⟨(blk_cell BK196.out 0).trans rfl, (blk_cell BK196.out 1).trans rfl, (blk_cell BK196.out 2).trans rfl, (blk_cell BK196.out 3).trans rfl, ((HB.out.cell (World.block_lt_of_cell? w _ hw197_0)).trans hw197_0)⟩ (fun hHeld => ?_)
                          clear hK K
                          refine norm_ (a' := ?_) ?_ ?_
                          rotate_left
                          · show Act.put _ (some 14) _ = _
                            simp only [Act.put, List.setIfInBounds_toArray, List.set_cons_zero, List.set_cons_succ, i64_w, i32_w]
                            rfl
                          refine one_ (i := 6) (N := some 60) #[true, true, true, true, true, true, true, false, false, false, true, false, false] rfl rfl (one_of HT_.out (by kernel_rfl)) (by decide) (fun K hK => ?_)
                          refine goes_ Try.func14 (by kernel_rfl) rfl #[.agg #[.int .u64 t191, .int .u64 t192, .int .u64 t193, .int .u64 t194], .int .u64 (IntKind.u64.wrap (rd l1 x8_1))] (by rfl) rfl rfl (by (try simp only [List.map_toArray, List.map_cons, List.map_nil]); first | done | rfl | (simp only [List.length_drop, List.length_take]; rfl)) ?_
                          with_reducible refine (credit_Read.calls t191 t192 t193 t194 (IntKind.u64.wrap (rd l1 x8_1)) t198 t199 t200 t201 t202 _ A39.out).mono ?_
                          rintro e w43 ⟨rfl, hb⟩
                          refine ⟨_, rfl, ?_⟩
                          have n0_ := Aside0.mk (blk_below (g := gb184) (o := .cells #[.int .u64 x185000_1, .int .u64 x185001_1, .int .u64 x185002_1, .int .u64 x185003_1] 27 (0, 0)) (by (with_reducible repeat (first | refine blk_drewN ?_ _ | refine blk_drew ?_ | refine blk_alloc ?_ _)); exact BK184.out) hb)
                          have n1_ := Aside0.mk (blk_below (g := gb185) (o := .cells #[.int .u64 x186000_1, .int .u64 x186001_1] 25 (0, 0)) (by (with_reducible repeat (first | refine blk_drewN ?_ _ | refine blk_drew ?_ | refine blk_alloc ?_ _)); exact BK185.out) hb)
                          have n2_ := Aside0.mk (blk_below (g := gb190) (o := .cells #[.int .u64 t187, .int .u64 t188] 25 (0, 0)) (by (with_reducible repeat (first | refine blk_drewN ?_ _ | refine blk_drew ?_ | refine blk_alloc ?_ _)); exact BK190.out) hb)
                          have n3_ := Aside0.mk (blk_below (g := gb196) (o := .cells #[.int .u64 t191, .int .u64 t192, .int .u64 t193, .int .u64 t194] 27 (0, 0)) (by (with_reducible repeat (first | refine blk_drewN ?_ _ | refine blk_drew ?_ | refine blk_alloc ?_ _)); exact BK196.out) hb)
                          have n4_ := Aside0.mk (blk_below (g := gb203) (o := .cells #[.int .u64 0, .int .u64 0, .int .u64 0, .int .u64 0] 27 (0, 0)) (by (with_reducible repeat (first | refine blk_drewN ?_ _ | refine blk_drew ?_ | refine blk_alloc ?_ _)); exact BK203.out) hb)
                          have n5_ := Aside0.mk (below_step (by repeat (first | (with_reducible first | exact HB.out | apply below_alloc | apply pw_below_drewN | apply below_drew1 | refine below_set ?_ GE184.out | refine below_set ?_ GE185.out | refine below_set ?_ GE190.out | refine below_set ?_ GE196.out | refine below_set ?_ GE203.out) | exact HB.out)) hb)
                          clear BK184
                          clear BK185
                          clear BK190
                          clear BK196
                          clear BK203
                          clear HB
                          have BK184 := n0_
                          have BK185 := n1_
                          have BK190 := n2_
                          have BK196 := n3_
                          have BK203 := n4_
                          have HB := n5_
                          clear n0_ n1_ n2_ n3_ n4_ n5_
                          (try clear hb)
                          (try clear hb2)
                          (try clear hk)
                          (try clear hi)
                          refine hK.out _ _ ⟨(blk_cell BK196.out 0).trans rfl, (blk_cell BK196.out 1).trans rfl, (blk_cell BK196.out 2).trans rfl, (blk_cell BK196.out 3).trans rfl, ((HB.out.cell (World.block_lt_of_cell? w _ hw197_0)).trans hw197_0)⟩ (fun hHeld => ?_)
                          clear hK K
                          refine norm_ (a' := ?_) ?_ ?_
                          rotate_left
                          · show Act.put _ (some 60) _ = _
                            simp only [Act.put, List.setIfInBounds_toArray, List.set_cons_zero, List.set_cons_succ, i64_w, i32_w]
                            rfl
                          refine pure_ (i := 7) (N := some 53) (v := ?_) (a' := ?_) #[true, true, true, true, true, true, true, true, false, false, true, false, false] rfl rfl (any_of HT_.out (by kernel_rfl)) (fun _ _ _ h => h) (Or.inl ⟨by rfl, ?_⟩) ?_ ?_
                          rotate_left
                          · intro w'
                            go_simp
                            with_reducible rfl
                          rotate_left
                          · simp only [Act.put, List.setIfInBounds_toArray, List.set_cons_zero, List.set_cons_succ, i64_w, i32_w]
                            rfl
                          refine pure_ (i := 8) (N := some 61) (v := ?_) (a' := ?_) #[true, true, true, true, true, true, true, true, true, false, true, false, false] rfl rfl (any_of HT_.out (by kernel_rfl)) (fun _ _ _ h => h) (Or.inl ⟨by rfl, ?_⟩) ?_ ?_
                          rotate_left
                          · intro w'
                            go_simp
                            with_reducible rfl
                          rotate_left
                          · simp only [Act.put, List.setIfInBounds_toArray, List.set_cons_zero, List.set_cons_succ, i64_w, i32_w]
                            rfl
                          refine pure_ (i := 9) (N := some 62) (v := ?_) (a' := ?_) #[true, true, true, true, true, true, true, true, true, true, true, false, false] rfl rfl (any_of HT_.out (by kernel_rfl)) (fun _ _ _ h => h) (Or.inl ⟨by rfl, ?_⟩) ?_ ?_
                          rotate_left
                          · intro w'
                            go_simp
                            with_reducible rfl
                          rotate_left
                          · simp only [Act.put, List.setIfInBounds_toArray, List.set_cons_zero, List.set_cons_succ, i64_w, i32_w]
                            rfl
                          exact norm_ (by simp only [putAll, Act.put, List.setIfInBounds_toArray, List.set_cons_zero, List.set_cons_succ]) (hCont (gb203) _ ⟨hHeld, (by (with_reducible repeat (first | refine blk_drewN ?_ _ | refine blk_drew ?_ | refine blk_alloc ?_ _)); exact BK184.out), (by (with_reducible repeat (first | refine blk_drewN ?_ _ | refine blk_drew ?_ | refine blk_alloc ?_ _)); exact BK185.out), (by (with_reducible repeat (first | refine blk_drewN ?_ _ | refine blk_drew ?_ | refine blk_alloc ?_ _)); exact BK190.out), (by (with_reducible repeat (first | refine blk_drewN ?_ _ | refine blk_drew ?_ | refine blk_alloc ?_ _)); exact BK196.out), (by (with_reducible repeat (first | refine blk_drewN ?_ _ | refine blk_drew ?_ | refine blk_alloc ?_ _)); exact BK203.out), GW203.out, GE203.out, NB184_203.out, NB203_184.out, NB185_203.out, NB203_185.out, NB190_203.out, NB203_190.out, NB196_203.out, NB203_196.out, (by repeat (first | (with_reducible first | exact HB.out | apply below_alloc | apply pw_below_drewN | apply below_drew1 | refine below_set ?_ GE184.out | refine below_set ?_ GE185.out | refine below_set ?_ GE190.out | refine below_set ?_ GE196.out | refine below_set ?_ GE203.out) | exact HB.out))⟩)
                      rintro gb203 w44 ⟨hS_, h0_, h1_, h2_, h3_, h4_, h5_, h6_, h7_, h8_, h9_, h10_, h11_, h12_, h13_, h14_, h15_⟩
                      have n0_ : Aside0 (w44.heap[gb184]? = some (.cells #[.int .u64 x185000_1, .int .u64 x185001_1, .int .u64 x185002_1, .int .u64 x185003_1] 27 (0, 0))) := ⟨h0_⟩
                      have n1_ : Aside0 (w44.heap[gb185]? = some (.cells #[.int .u64 x186000_1, .int .u64 x186001_1] 25 (0, 0))) := ⟨h1_⟩
                      have n2_ : Aside0 (w44.heap[gb190]? = some (.cells #[.int .u64 t187, .int .u64 t188] 25 (0, 0))) := ⟨h2_⟩
                      have n3_ : Aside0 (w44.heap[gb196]? = some (.cells #[.int .u64 t191, .int .u64 t192, .int .u64 t193, .int .u64 t194] 27 (0, 0))) := ⟨h3_⟩
                      have n4_ : Aside0 (w44.heap[gb203]? = some (.cells #[.int .u64 0, .int .u64 0, .int .u64 0, .int .u64 0] 27 (0, 0))) := ⟨h4_⟩
                      have n5_ : Aside0 (w.heap.size ≤ gb203) := ⟨h5_⟩
                      have n6_ : Aside0 (w.heap.size ≤ gb203) := ⟨h6_⟩
                      have n7_ : Aside0 (gb184 ≠ gb203) := ⟨h7_⟩
                      have n8_ : Aside0 (gb203 ≠ gb184) := ⟨h8_⟩
                      have n9_ : Aside0 (gb185 ≠ gb203) := ⟨h9_⟩
                      have n10_ : Aside0 (gb203 ≠ gb185) := ⟨h10_⟩
                      have n11_ : Aside0 (gb190 ≠ gb203) := ⟨h11_⟩
                      have n12_ : Aside0 (gb203 ≠ gb190) := ⟨h12_⟩
                      have n13_ : Aside0 (gb196 ≠ gb203) := ⟨h13_⟩
                      have n14_ : Aside0 (gb203 ≠ gb196) := ⟨h14_⟩
                      have n15_ : Aside0 (Below w.heap.size w w44) := ⟨h15_⟩
                      clear BK184
                      clear BK185
                      clear BK190
                      clear BK196
                      clear HB
                      clear h0_ h1_ h2_ h3_ h4_ h5_ h6_ h7_ h8_ h9_ h10_ h11_ h12_ h13_ h14_ h15_
                      have BK184 := n0_
                      have BK185 := n1_
                      have BK190 := n2_
                      have BK196 := n3_
                      have BK203 := n4_
                      have GW203 := n5_
                      have GE203 := n6_
                      have NB184_203 := n7_
                      have NB203_184 := n8_
                      have NB185_203 := n9_
                      have NB203_185 := n10_
                      have NB190_203 := n11_
                      have NB203_190 := n12_
                      have NB196_203 := n13_
                      have NB203_196 := n14_
                      have HB := n15_
                      clear n0_ n1_ n2_ n3_ n4_ n5_ n6_ n7_ n8_ n9_ n10_ n11_ n12_ n13_ n14_ n15_
                      have hHeld : w44.cell? ⟨gb196, 0, none⟩ = some (.int .u64 t191) ∧ w44.cell? ⟨gb196, 1, none⟩ = some (.int .u64 t192) ∧ w44.cell? ⟨gb196, 2, none⟩ = some (.int .u64 t193) ∧ w44.cell? ⟨gb196, 3, none⟩ = some (.int .u64 t194) ∧ w44.cell? (ad197.add (x8_1).toNat) = some (.int .u32 (rd l1 x8_1)) := hS_
                      refine norm_ (a' := ?_) ?_ ?_
                      rotate_left
                      · simp only [putAll, Act.put, List.setIfInBounds_toArray, List.set_cons_zero, List.set_cons_succ]
                        rfl
                      refine one_ (i := 11) (N := none) #[true, true, true, true, true, true, true, true, true, true, true, true, false] rfl rfl (one_of HT_.out (by kernel_rfl)) (by decide) (fun K hK => ?_)
                      have hs45 : w44.cell? ⟨gb203, 0, none⟩ = some (.int .u64 0) := (blk_cell BK203.out 0).trans rfl
                      have hfs45 := blk_frozen BK203.out 0
                      have hns45_0 := NB184_203.out
                      have hns45_1 := NB185_203.out
                      have hns45_2 := NB190_203.out
                      have hns45_3 := NB196_203.out
                      have hms45_0 := NB203_184.out
                      have hms45_1 := NB203_185.out
                      have hms45_2 := NB203_190.out
                      have hms45_3 := NB203_196.out
                      have hs46 : w44.cell? ⟨gb203, 1, none⟩ = some (.int .u64 0) := (blk_cell BK203.out 1).trans rfl
                      have hfs46 := blk_frozen BK203.out 1
                      have hns46_0 := NB184_203.out
                      have hns46_1 := NB185_203.out
                      have hns46_2 := NB190_203.out
                      have hns46_3 := NB196_203.out
                      have hms46_0 := NB203_184.out
                      have hms46_1 := NB203_185.out
                      have hms46_2 := NB203_190.out
                      have hms46_3 := NB203_196.out
                      have hs47 : w44.cell? ⟨gb203, 2, none⟩ = some (.int .u64 0) := (blk_cell BK203.out 2).trans rfl
                      have hfs47 := blk_frozen BK203.out 2
                      have hns47_0 := NB184_203.out
                      have hns47_1 := NB185_203.out
                      have hns47_2 := NB190_203.out
                      have hns47_3 := NB196_203.out
                      have hms47_0 := NB203_184.out
                      have hms47_1 := NB203_185.out
                      have hms47_2 := NB203_190.out
                      have hms47_3 := NB203_196.out
                      have hs48 : w44.cell? ⟨gb203, 3, none⟩ = some (.int .u64 0) := (blk_cell BK203.out 3).trans rfl
                      have hfs48 := blk_frozen BK203.out 3
                      have hns48_0 := NB184_203.out
                      have hns48_1 := NB185_203.out
                      have hns48_2 := NB190_203.out
                      have hns48_3 := NB196_203.out
                      have hms48_0 := NB203_184.out
                      have hms48_1 := NB203_185.out
                      have hms48_2 := NB203_190.out
                      have hms48_3 := NB203_196.out
                      refine skip_ (w1 := ?_) (by rfl) rfl ?_ ?_
                      rotate_left
                      · go_simp
                        rfl
                      refine hK.out _ _ ⟨((cell_far (p := ⟨gb203, _, none⟩) NB196_203.out _).trans (((cell_far (p := ⟨gb203, _, none⟩) NB196_203.out _).trans (((cell_far (p := ⟨gb203, _, none⟩) NB196_203.out _).trans (((cell_far (p := ⟨gb203, _, none⟩) NB196_203.out _).trans (hHeld.1)))))))), ((cell_far (p := ⟨gb203, _, none⟩) NB196_203.out _).trans (((cell_far (p := ⟨gb203, _, none⟩) NB196_203.out _).trans (((cell_far (p := ⟨gb203, _, none⟩) NB196_203.out _).trans (((cell_far (p := ⟨gb203, _, none⟩) NB196_203.out _).trans (hHeld.2.1)))))))), ((cell_far (p := ⟨gb203, _, none⟩) NB196_203.out _).trans (((cell_far (p := ⟨gb203, _, none⟩) NB196_203.out _).trans (((cell_far (p := ⟨gb203, _, none⟩) NB196_203.out _).trans (((cell_far (p := ⟨gb203, _, none⟩) NB196_203.out _).trans (hHeld.2.2.1)))))))), ((cell_far (p := ⟨gb203, _, none⟩) NB196_203.out _).trans (((cell_far (p := ⟨gb203, _, none⟩) NB196_203.out _).trans (((cell_far (p := ⟨gb203, _, none⟩) NB196_203.out _).trans (((cell_far (p := ⟨gb203, _, none⟩) NB196_203.out _).trans (hHeld.2.2.2.1)))))))), ((cell_far (p := ⟨gb203, _, none⟩) (by first | exact Nat.ne_of_lt (Nat.lt_of_lt_of_le (by have := World.block_lt_of_cell? _ _ hw197_0; first | rwa [add_block] at this | exact this) GW203.out) | (rw [add_block]; exact Nat.ne_of_lt (Nat.lt_of_lt_of_le (by have := World.block_lt_of_cell? _ _ hw197_0; first | rwa [add_block] at this | exact this) GW203.out)) | (show (Addr.add _ _).block ≠ _; rw [add_block]; exact Nat.ne_of_lt (Nat.lt_of_lt_of_le (by have := World.block_lt_of_cell? _ _ hw197_0; first | rwa [add_block] at this | exact this) GW203.out)) | (dsimp only; exact Nat.ne_of_lt (Nat.lt_of_lt_of_le (by have := World.block_lt_of_cell? _ _ hw197_0; first | rwa [add_block] at this | exact this) GW203.out))) _).trans (((cell_far (p := ⟨gb203, _, none⟩) (by first | exact Nat.ne_of_lt (Nat.lt_of_lt_of_le (by have := World.block_lt_of_cell? _ _ hw197_0; first | rwa [add_block] at this | exact this) GW203.out) | (rw [add_block]; exact Nat.ne_of_lt (Nat.lt_of_lt_of_le (by have := World.block_lt_of_cell? _ _ hw197_0; first | rwa [add_block] at this | exact this) GW203.out)) | (show (Addr.add _ _).block ≠ _; rw [add_block]; exact Nat.ne_of_lt (Nat.lt_of_lt_of_le (by have := World.block_lt_of_cell? _ _ hw197_0; first | rwa [add_block] at this | exact this) GW203.out)) | (dsimp only; exact Nat.ne_of_lt (Nat.lt_of_lt_of_le (by have := World.block_lt_of_cell? _ _ hw197_0; first | rwa [add_block] at this | exact this) GW203.out))) _).trans (((cell_far (p := ⟨gb203, _, none⟩) (by first | exact Nat.ne_of_lt (Nat.lt_of_lt_of_le (by have := World.block_lt_of_cell? _ _ hw197_0; first | rwa [add_block] at this | exact this) GW203.out) | (rw [add_block]; exact Nat.ne_of_lt (Nat.lt_of_lt_of_le (by have := World.block_lt_of_cell? _ _ hw197_0; first | rwa [add_block] at this | exact this) GW203.out)) | (show (Addr.add _ _).block ≠ _; rw [add_block]; exact Nat.ne_of_lt (Nat.lt_of_lt_of_le (by have := World.block_lt_of_cell? _ _ hw197_0; first | rwa [add_block] at this | exact this) GW203.out)) | (dsimp only; exact Nat.ne_of_lt (Nat.lt_of_lt_of_le (by have := World.block_lt_of_cell? _ _ hw197_0; first | rwa [add_block] at this | exact this) GW203.out))) _).trans (((cell_far (p := ⟨gb203, _, none⟩) (by first | exact Nat.ne_of_lt (Nat.lt_of_lt_of_le (by have := World.block_lt_of_cell? _ _ hw197_0; first | rwa [add_block] at this | exact this) GW203.out) | (rw [add_block]; exact Nat.ne_of_lt (Nat.lt_of_lt_of_le (by have := World.block_lt_of_cell? _ _ hw197_0; first | rwa [add_block] at this | exact this) GW203.out)) | (show (Addr.add _ _).block ≠ _; rw [add_block]; exact Nat.ne_of_lt (Nat.lt_of_lt_of_le (by have := World.block_lt_of_cell? _ _ hw197_0; first | rwa [add_block] at this | exact this) GW203.out)) | (dsimp only; exact Nat.ne_of_lt (Nat.lt_of_lt_of_le (by have := World.block_lt_of_cell? _ _ hw197_0; first | rwa [add_block] at this | exact this) GW203.out))) _).trans (hHeld.2.2.2.2))))))))⟩ (fun hHeld => ?_)
                      clear hK K
                      refine pure_ (i := 12) (N := some 15) (v := ?_) (a' := ?_) #[true, true, true, true, true, true, true, true, true, true, true, true, true] rfl rfl (any_of HT_.out (by kernel_rfl)) (fun _ _ _ h => h) (Or.inl ⟨by rfl, ?_⟩) ?_ ?_
                      rotate_left
                      · intro w'
                        go_simp
                        with_reducible rfl
                      rotate_left
                      · simp only [Act.put, List.setIfInBounds_toArray, List.set_cons_zero, List.set_cons_succ, i64_w, i32_w]
                        rfl
                      refine done_ (done_of HT_.out (by kernel_rfl)) ?_
                      go_upto_region 13 with (fail)
                      go_cut [101] (fun v101 wc => ∃ (kq : Nat) (x101_39 : Bool), v101 = .bool x101_39 ∧ Aside0 (wigwaglaw19_CreditMeets.j3 kq a0 l1 t179 x8_1 x101_39 t187 t188 t198 t199 t200 t201 = some r) ∧ Aside0 (kq ≤ kj17) ∧ Aside0 (wc.heap[gb184]? = some (.cells #[.int .u64 x185000_1, .int .u64 x185001_1, .int .u64 x185002_1, .int .u64 x185003_1] 27 (0, 0))) ∧ Aside0 (wc.heap[gb185]? = some (.cells #[.int .u64 x186000_1, .int .u64 x186001_1] 25 (0, 0))) ∧ Aside0 (wc.heap[gb190]? = some (.cells #[.int .u64 t187, .int .u64 t188] 25 (0, 0))) ∧ Aside0 (wc.heap[gb196]? = some (.cells #[.int .u64 t191, .int .u64 t192, .int .u64 t193, .int .u64 t194] 27 (0, 0))) ∧ Aside0 (wc.heap[gb203]? = some (.cells #[.int .u64 t198, .int .u64 t199, .int .u64 t200, .int .u64 t201] 27 (0, 0))) ∧ Aside0 (Below w.heap.size w wc))
                      case first =>
                        have H := HC40.out
                        clear HC40
                        by_cases c49 : t198 < t191
                        · rw [if_pos c49] at H
                          have c49b0 : decide (t198 < t191) = true := decide_eq_true c49
                          clear c49
                          (first | rw [c49b0] | (simp only [i64_w, i32_w]; rw [c49b0]) | skip)
                          have H' := Aside0.mk H
                          clear H
                          have hnb50 := NB203_184.out
                          have hnc50 := NB184_203.out
                          have hnb51 := NB203_185.out
                          have hnc51 := NB185_203.out
                          have hnb52 := NB203_190.out
                          have hnc52 := NB190_203.out
                          have hnb53 := NB203_196.out
                          have hnc53 := NB196_203.out
                          have hcz54_0 : w44.cell? ⟨gb203, 0, none⟩ = some (.int .u64 0) := (blk_cell BK203.out 0).trans rfl
                          have hcz54_1 : w44.cell? ⟨gb203, 1, none⟩ = some (.int .u64 0) := (blk_cell BK203.out 1).trans rfl
                          have hcz54_2 : w44.cell? ⟨gb203, 2, none⟩ = some (.int .u64 0) := (blk_cell BK203.out 2).trans rfl
                          have hcz54_3 : w44.cell? ⟨gb203, 3, none⟩ = some (.int .u64 0) := (blk_cell BK203.out 3).trans rfl
                          have hfz54_0 := blk_frozen BK203.out 0
                          have hfz54_1 := blk_frozen BK203.out 1
                          have hfz54_2 := blk_frozen BK203.out 2
                          have hfz54_3 := blk_frozen BK203.out 3
                          have hnb55 := NB196_184.out
                          have hnc55 := NB184_196.out
                          have hnb56 := NB196_185.out
                          have hnc56 := NB185_196.out
                          have hnb57 := NB196_190.out
                          have hnc57 := NB190_196.out
                          have hcz58_0 : w44.cell? ⟨gb196, 0, none⟩ = some (.int .u64 t191) := (blk_cell BK196.out 0).trans rfl
                          have hcz58_1 : w44.cell? ⟨gb196, 1, none⟩ = some (.int .u64 t192) := (blk_cell BK196.out 1).trans rfl
                          have hcz58_2 : w44.cell? ⟨gb196, 2, none⟩ = some (.int .u64 t193) := (blk_cell BK196.out 2).trans rfl
                          have hcz58_3 : w44.cell? ⟨gb196, 3, none⟩ = some (.int .u64 t194) := (blk_cell BK196.out 3).trans rfl
                          have hfz58_0 := blk_frozen BK196.out 0
                          have hfz58_1 := blk_frozen BK196.out 1
                          have hfz58_2 := blk_frozen BK196.out 2
                          have hfz58_3 := blk_frozen BK196.out 3
                          go_wp2
                          go_meet
                          case rel => exact ⟨_, (true), (by first | rfl | (simp; done) | (simp [*]; done)), H', ⟨by have := HK1.out; have := HJ11.out; have := HJ17.out; first | omega | exact Nat.le_refl _⟩, ⟨by (with_reducible repeat (first | refine blk_drewN ?_ _ | refine blk_drew ?_ | refine blk_alloc ?_ _)); refine blk_far ?_ NB184_203.out _; (with_reducible repeat (first | refine blk_drewN ?_ _ | refine blk_drew ?_ | refine blk_alloc ?_ _)); refine blk_far ?_ NB184_203.out _; (with_reducible repeat (first | refine blk_drewN ?_ _ | refine blk_drew ?_ | refine blk_alloc ?_ _)); refine blk_far ?_ NB184_203.out _; (with_reducible repeat (first | refine blk_drewN ?_ _ | refine blk_drew ?_ | refine blk_alloc ?_ _)); refine blk_far ?_ NB184_203.out _; (with_reducible repeat (first | refine blk_drewN ?_ _ | refine blk_drew ?_ | refine blk_alloc ?_ _)); exact BK184.out⟩, ⟨by (with_reducible repeat (first | refine blk_drewN ?_ _ | refine blk_drew ?_ | refine blk_alloc ?_ _)); refine blk_far ?_ NB185_203.out _; (with_reducible repeat (first | refine blk_drewN ?_ _ | refine blk_drew ?_ | refine blk_alloc ?_ _)); refine blk_far ?_ NB185_203.out _; (with_reducible repeat (first | refine blk_drewN ?_ _ | refine blk_drew ?_ | refine blk_alloc ?_ _)); refine blk_far ?_ NB185_203.out _; (with_reducible repeat (first | refine blk_drewN ?_ _ | refine blk_drew ?_ | refine blk_alloc ?_ _)); refine blk_far ?_ NB185_203.out _; (with_reducible repeat (first | refine blk_drewN ?_ _ | refine blk_drew ?_ | refine blk_alloc ?_ _)); exact BK185.out⟩, ⟨by (with_reducible repeat (first | refine blk_drewN ?_ _ | refine blk_drew ?_ | refine blk_alloc ?_ _)); refine blk_far ?_ NB190_203.out _; (with_reducible repeat (first | refine blk_drewN ?_ _ | refine blk_drew ?_ | refine blk_alloc ?_ _)); refine blk_far ?_ NB190_203.out _; (with_reducible repeat (first | refine blk_drewN ?_ _ | refine blk_drew ?_ | refine blk_alloc ?_ _)); refine blk_far ?_ NB190_203.out _; (with_reducible repeat (first | refine blk_drewN ?_ _ | refine blk_drew ?_ | refine blk_alloc ?_ _)); refine blk_far ?_ NB190_203.out _; (with_reducible repeat (first | refine blk_drewN ?_ _ | refine blk_drew ?_ | refine blk_alloc ?_ _)); exact BK190.out⟩, ⟨by (with_reducible repeat (first | refine blk_drewN ?_ _ | refine blk_drew ?_ | refine blk_alloc ?_ _)); refine blk_far ?_ NB196_203.out _; (with_reducible repeat (first | refine blk_drewN ?_ _ | refine blk_drew ?_ | refine blk_alloc ?_ _)); refine blk_far ?_ NB196_203.out _; (with_reducible repeat (first | refine blk_drewN ?_ _ | refine blk_drew ?_ | refine blk_alloc ?_ _)); refine blk_far ?_ NB196_203.out _; (with_reducible repeat (first | refine blk_drewN ?_ _ | refine blk_drew ?_ | refine blk_alloc ?_ _)); refine blk_far ?_ NB196_203.out _; (with_reducible repeat (first | refine blk_drewN ?_ _ | refine blk_drew ?_ | refine blk_alloc ?_ _)); exact BK196.out⟩, ⟨by (with_reducible repeat (first | refine blk_drewN ?_ _ | refine blk_drew ?_ | refine blk_alloc ?_ _)); refine blk_put (cs := #[.int .u64 t198, .int .u64 t199, .int .u64 t200, .int .u64 0]) ?_ 3 _ rfl; (with_reducible repeat (first | refine blk_drewN ?_ _ | refine blk_drew ?_ | refine blk_alloc ?_ _)); refine blk_put (cs := #[.int .u64 t198, .int .u64 t199, .int .u64 0, .int .u64 0]) ?_ 2 _ rfl; (with_reducible repeat (first | refine blk_drewN ?_ _ | refine blk_drew ?_ | refine blk_alloc ?_ _)); refine blk_put (cs := #[.int .u64 t198, .int .u64 0, .int .u64 0, .int .u64 0]) ?_ 1 _ rfl; (with_reducible repeat (first | refine blk_drewN ?_ _ | refine blk_drew ?_ | refine blk_alloc ?_ _)); refine blk_put (cs := #[.int .u64 0, .int .u64 0, .int .u64 0, .int .u64 0]) ?_ 0 _ rfl; (with_reducible repeat (first | refine blk_drewN ?_ _ | refine blk_drew ?_ | refine blk_alloc ?_ _)); exact BK203.out⟩, ⟨by repeat (first | (with_reducible first | exact HB.out | apply below_alloc | apply pw_below_drewN | apply below_drew1 | refine below_set ?_ GE184.out | refine below_set ?_ GE185.out | refine below_set ?_ GE190.out | refine below_set ?_ GE196.out | refine below_set ?_ GE203.out) | exact HB.out)⟩⟩
                        · rw [if_neg c49] at H
                          have c49b0 : decide (t198 < t191) = false := decide_eq_false c49
                          clear c49
                          (first | rw [c49b0] | (simp only [i64_w, i32_w]; rw [c49b0]) | skip)
                          by_cases c59 : (t202 != (decide (t198 > t191))) = true
                          · rw [if_pos c59] at H
                            have c59b0 : (t202 != (decide (t198 > t191))) = true := c59
                            (try (have c59b1 : decide (t202 = (decide (t198 > t191))) = false := by simpa using c59))
                            (try (have c59b2 : (t202 == (decide (t198 > t191))) = false := by simpa using c59))
                            (try (have c59b3 : ¬ (t202 = (decide (t198 > t191))) := by simpa using c59))
                            clear c59
                            have H' := Aside0.mk H
                            clear H
                            have hnb60 := NB203_184.out
                            have hnc60 := NB184_203.out
                            have hnb61 := NB203_185.out
                            have hnc61 := NB185_203.out
                            have hnb62 := NB203_190.out
                            have hnc62 := NB190_203.out
                            have hnb63 := NB203_196.out
                            have hnc63 := NB196_203.out
                            have hcz64_0 : w44.cell? ⟨gb203, 0, none⟩ = some (.int .u64 0) := (blk_cell BK203.out 0).trans rfl
                            have hcz64_1 : w44.cell? ⟨gb203, 1, none⟩ = some (.int .u64 0) := (blk_cell BK203.out 1).trans rfl
                            have hcz64_2 : w44.cell? ⟨gb203, 2, none⟩ = some (.int .u64 0) := (blk_cell BK203.out 2).trans rfl
                            have hcz64_3 : w44.cell? ⟨gb203, 3, none⟩ = some (.int .u64 0) := (blk_cell BK203.out 3).trans rfl
                            have hfz64_0 := blk_frozen BK203.out 0
                            have hfz64_1 := blk_frozen BK203.out 1
                            have hfz64_2 := blk_frozen BK203.out 2
                            have hfz64_3 := blk_frozen BK203.out 3
                            have hnb65 := NB196_184.out
                            have hnc65 := NB184_196.out
                            have hnb66 := NB196_185.out
                            have hnc66 := NB185_196.out
                            have hnb67 := NB196_190.out
                            have hnc67 := NB190_196.out
                            have hcz68_0 : w44.cell? ⟨gb196, 0, none⟩ = some (.int .u64 t191) := (blk_cell BK196.out 0).trans rfl
                            have hcz68_1 : w44.cell? ⟨gb196, 1, none⟩ = some (.int .u64 t192) := (blk_cell BK196.out 1).trans rfl
                            have hcz68_2 : w44.cell? ⟨gb196, 2, none⟩ = some (.int .u64 t193) := (blk_cell BK196.out 2).trans rfl
                            have hcz68_3 : w44.cell? ⟨gb196, 3, none⟩ = some (.int .u64 t194) := (blk_cell BK196.out 3).trans rfl
                            have hfz68_0 := blk_frozen BK196.out 0
                            have hfz68_1 := blk_frozen BK196.out 1
                            have hfz68_2 := blk_frozen BK196.out 2
                            have hfz68_3 := blk_frozen BK196.out 3
                            go_wp2
                            go_meet
                            case rel => exact ⟨_, (true), (by first | rfl | (simp; done) | (simp [*]; done)), H', ⟨by have := HK1.out; have := HJ11.out; have := HJ17.out; first | omega | exact Nat.le_refl _⟩, ⟨by (with_reducible repeat (first | refine blk_drewN ?_ _ | refine blk_drew ?_ | refine blk_alloc ?_ _)); refine blk_far ?_ NB184_203.out _; (with_reducible repeat (first | refine blk_drewN ?_ _ | refine blk_drew ?_ | refine blk_alloc ?_ _)); refine blk_far ?_ NB184_203.out _; (with_reducible repeat (first | refine blk_drewN ?_ _ | refine blk_drew ?_ | refine blk_alloc ?_ _)); refine blk_far ?_ NB184_203.out _; (with_reducible repeat (first | refine blk_drewN ?_ _ | refine blk_drew ?_ | refine blk_alloc ?_ _)); refine blk_far ?_ NB184_203.out _; (with_reducible repeat (first | refine blk_drewN ?_ _ | refine blk_drew ?_ | refine blk_alloc ?_ _)); exact BK184.out⟩, ⟨by (with_reducible repeat (first | refine blk_drewN ?_ _ | refine blk_drew ?_ | refine blk_alloc ?_ _)); refine blk_far ?_ NB185_203.out _; (with_reducible repeat (first | refine blk_drewN ?_ _ | refine blk_drew ?_ | refine blk_alloc ?_ _)); refine blk_far ?_ NB185_203.out _; (with_reducible repeat (first | refine blk_drewN ?_ _ | refine blk_drew ?_ | refine blk_alloc ?_ _)); refine blk_far ?_ NB185_203.out _; (with_reducible repeat (first | refine blk_drewN ?_ _ | refine blk_drew ?_ | refine blk_alloc ?_ _)); refine blk_far ?_ NB185_203.out _; (with_reducible repeat (first | refine blk_drewN ?_ _ | refine blk_drew ?_ | refine blk_alloc ?_ _)); exact BK185.out⟩, ⟨by (with_reducible repeat (first | refine blk_drewN ?_ _ | refine blk_drew ?_ | refine blk_alloc ?_ _)); refine blk_far ?_ NB190_203.out _; (with_reducible repeat (first | refine blk_drewN ?_ _ | refine blk_drew ?_ | refine blk_alloc ?_ _)); refine blk_far ?_ NB190_203.out _; (with_reducible repeat (first | refine blk_drewN ?_ _ | refine blk_drew ?_ | refine blk_alloc ?_ _)); refine blk_far ?_ NB190_203.out _; (with_reducible repeat (first | refine blk_drewN ?_ _ | refine blk_drew ?_ | refine blk_alloc ?_ _)); refine blk_far ?_ NB190_203.out _; (with_reducible repeat (first | refine blk_drewN ?_ _ | refine blk_drew ?_ | refine blk_alloc ?_ _)); exact BK190.out⟩, ⟨by (with_reducible repeat (first | refine blk_drewN ?_ _ | refine blk_drew ?_ | refine blk_alloc ?_ _)); refine blk_far ?_ NB196_203.out _; (with_reducible repeat (first | refine blk_drewN ?_ _ | refine blk_drew ?_ | refine blk_alloc ?_ _)); refine blk_far ?_ NB196_203.out _; (with_reducible repeat (first | refine blk_drewN ?_ _ | refine blk_drew ?_ | refine blk_alloc ?_ _)); refine blk_far ?_ NB196_203.out _; (with_reducible repeat (first | refine blk_drewN ?_ _ | refine blk_drew ?_ | refine blk_alloc ?_ _)); refine blk_far ?_ NB196_203.out _; (with_reducible repeat (first | refine blk_drewN ?_ _ | refine blk_drew ?_ | refine blk_alloc ?_ _)); exact BK196.out⟩, ⟨by (with_reducible repeat (first | refine blk_drewN ?_ _ | refine blk_drew ?_ | refine blk_alloc ?_ _)); refine blk_put (cs := #[.int .u64 t198, .int .u64 t199, .int .u64 t200, .int .u64 0]) ?_ 3 _ rfl; (with_reducible repeat (first | refine blk_drewN ?_ _ | refine blk_drew ?_ | refine blk_alloc ?_ _)); refine blk_put (cs := #[.int .u64 t198, .int .u64 t199, .int .u64 0, .int .u64 0]) ?_ 2 _ rfl; (with_reducible repeat (first | refine blk_drewN ?_ _ | refine blk_drew ?_ | refine blk_alloc ?_ _)); refine blk_put (cs := #[.int .u64 t198, .int .u64 0, .int .u64 0, .int .u64 0]) ?_ 1 _ rfl; (with_reducible repeat (first | refine blk_drewN ?_ _ | refine blk_drew ?_ | refine blk_alloc ?_ _)); refine blk_put (cs := #[.int .u64 0, .int .u64 0, .int .u64 0, .int .u64 0]) ?_ 0 _ rfl; (with_reducible repeat (first | refine blk_drewN ?_ _ | refine blk_drew ?_ | refine blk_alloc ?_ _)); exact BK203.out⟩, ⟨by repeat (first | (with_reducible first | exact HB.out | apply below_alloc | apply pw_below_drewN | apply below_drew1 | refine below_set ?_ GE184.out | refine below_set ?_ GE185.out | refine below_set ?_ GE190.out | refine below_set ?_ GE196.out | refine below_set ?_ GE203.out) | exact HB.out)⟩⟩
                          · rw [if_neg c59] at H
                            have c59b0 : (t202 != (decide (t198 > t191))) = false := by simpa using c59
                            (try (have c59b1 : decide (t202 = (decide (t198 > t191))) = true := by simpa using c59))
                            (try (have c59b2 : (t202 == (decide (t198 > t191))) = true := by simpa using c59))
                            clear c59
                            by_cases c69 : t200 > t199
                            · rw [if_pos c69] at H
                              have c69b0 : decide (t199 < t200) = true := decide_eq_true c69
                              clear c69
                              have H' := Aside0.mk H
                              clear H
                              have hnb70 := NB203_184.out
                              have hnc70 := NB184_203.out
                              have hnb71 := NB203_185.out
                              have hnc71 := NB185_203.out
                              have hnb72 := NB203_190.out
                              have hnc72 := NB190_203.out
                              have hnb73 := NB203_196.out
                              have hnc73 := NB196_203.out
                              have hcz74_0 : w44.cell? ⟨gb203, 0, none⟩ = some (.int .u64 0) := (blk_cell BK203.out 0).trans rfl
                              have hcz74_1 : w44.cell? ⟨gb203, 1, none⟩ = some (.int .u64 0) := (blk_cell BK203.out 1).trans rfl
                              have hcz74_2 : w44.cell? ⟨gb203, 2, none⟩ = some (.int .u64 0) := (blk_cell BK203.out 2).trans rfl
                              have hcz74_3 : w44.cell? ⟨gb203, 3, none⟩ = some (.int .u64 0) := (blk_cell BK203.out 3).trans rfl
                              have hfz74_0 := blk_frozen BK203.out 0
                              have hfz74_1 := blk_frozen BK203.out 1
                              have hfz74_2 := blk_frozen BK203.out 2
                              have hfz74_3 := blk_frozen BK203.out 3
                              have hnb75 := NB196_184.out
                              have hnc75 := NB184_196.out
                              have hnb76 := NB196_185.out
                              have hnc76 := NB185_196.out
                              have hnb77 := NB196_190.out
                              have hnc77 := NB190_196.out
                              have hcz78_0 : w44.cell? ⟨gb196, 0, none⟩ = some (.int .u64 t191) := (blk_cell BK196.out 0).trans rfl
                              have hcz78_1 : w44.cell? ⟨gb196, 1, none⟩ = some (.int .u64 t192) := (blk_cell BK196.out 1).trans rfl
                              have hcz78_2 : w44.cell? ⟨gb196, 2, none⟩ = some (.int .u64 t193) := (blk_cell BK196.out 2).trans rfl
                              have hcz78_3 : w44.cell? ⟨gb196, 3, none⟩ = some (.int .u64 t194) := (blk_cell BK196.out 3).trans rfl
                              have hfz78_0 := blk_frozen BK196.out 0
                              have hfz78_1 := blk_frozen BK196.out 1
                              have hfz78_2 := blk_frozen BK196.out 2
                              have hfz78_3 := blk_frozen BK196.out 3
                              go_wp2
                              go_meet
                              case rel => exact ⟨_, (true), (by first | rfl | (simp; done) | (simp [*]; done)), H', ⟨by have := HK1.out; have := HJ11.out; have := HJ17.out; first | omega | exact Nat.le_refl _⟩, ⟨by (with_reducible repeat (first | refine blk_drewN ?_ _ | refine blk_drew ?_ | refine blk_alloc ?_ _)); refine blk_far ?_ NB184_203.out _; (with_reducible repeat (first | refine blk_drewN ?_ _ | refine blk_drew ?_ | refine blk_alloc ?_ _)); refine blk_far ?_ NB184_203.out _; (with_reducible repeat (first | refine blk_drewN ?_ _ | refine blk_drew ?_ | refine blk_alloc ?_ _)); refine blk_far ?_ NB184_203.out _; (with_reducible repeat (first | refine blk_drewN ?_ _ | refine blk_drew ?_ | refine blk_alloc ?_ _)); refine blk_far ?_ NB184_203.out _; (with_reducible repeat (first | refine blk_drewN ?_ _ | refine blk_drew ?_ | refine blk_alloc ?_ _)); exact BK184.out⟩, ⟨by (with_reducible repeat (first | refine blk_drewN ?_ _ | refine blk_drew ?_ | refine blk_alloc ?_ _)); refine blk_far ?_ NB185_203.out _; (with_reducible repeat (first | refine blk_drewN ?_ _ | refine blk_drew ?_ | refine blk_alloc ?_ _)); refine blk_far ?_ NB185_203.out _; (with_reducible repeat (first | refine blk_drewN ?_ _ | refine blk_drew ?_ | refine blk_alloc ?_ _)); refine blk_far ?_ NB185_203.out _; (with_reducible repeat (first | refine blk_drewN ?_ _ | refine blk_drew ?_ | refine blk_alloc ?_ _)); refine blk_far ?_ NB185_203.out _; (with_reducible repeat (first | refine blk_drewN ?_ _ | refine blk_drew ?_ | refine blk_alloc ?_ _)); exact BK185.out⟩, ⟨by (with_reducible repeat (first | refine blk_drewN ?_ _ | refine blk_drew ?_ | refine blk_alloc ?_ _)); refine blk_far ?_ NB190_203.out _; (with_reducible repeat (first | refine blk_drewN ?_ _ | refine blk_drew ?_ | refine blk_alloc ?_ _)); refine blk_far ?_ NB190_203.out _; (with_reducible repeat (first | refine blk_drewN ?_ _ | refine blk_drew ?_ | refine blk_alloc ?_ _)); refine blk_far ?_ NB190_203.out _; (with_reducible repeat (first | refine blk_drewN ?_ _ | refine blk_drew ?_ | refine blk_alloc ?_ _)); refine blk_far ?_ NB190_203.out _; (with_reducible repeat (first | refine blk_drewN ?_ _ | refine blk_drew ?_ | refine blk_alloc ?_ _)); exact BK190.out⟩, ⟨by (with_reducible repeat (first | refine blk_drewN ?_ _ | refine blk_drew ?_ | refine blk_alloc ?_ _)); refine blk_far ?_ NB196_203.out _; (with_reducible repeat (first | refine blk_drewN ?_ _ | refine blk_drew ?_ | refine blk_alloc ?_ _)); refine blk_far ?_ NB196_203.out _; (with_reducible repeat (first | refine blk_drewN ?_ _ | refine blk_drew ?_ | refine blk_alloc ?_ _)); refine blk_far ?_ NB196_203.out _; (with_reducible repeat (first | refine blk_drewN ?_ _ | refine blk_drew ?_ | refine blk_alloc ?_ _)); refine blk_far ?_ NB196_203.out _; (with_reducible repeat (first | refine blk_drewN ?_ _ | refine blk_drew ?_ | refine blk_alloc ?_ _)); exact BK196.out⟩, ⟨by (with_reducible repeat (first | refine blk_drewN ?_ _ | refine blk_drew ?_ | refine blk_alloc ?_ _)); refine blk_put (cs := #[.int .u64 t198, .int .u64 t199, .int .u64 t200, .int .u64 0]) ?_ 3 _ rfl; (with_reducible repeat (first | refine blk_drewN ?_ _ | refine blk_drew ?_ | refine blk_alloc ?_ _)); refine blk_put (cs := #[.int .u64 t198, .int .u64 t199, .int .u64 0, .int .u64 0]) ?_ 2 _ rfl; (with_reducible repeat (first | refine blk_drewN ?_ _ | refine blk_drew ?_ | refine blk_alloc ?_ _)); refine blk_put (cs := #[.int .u64 t198, .int .u64 0, .int .u64 0, .int .u64 0]) ?_ 1 _ rfl; (with_reducible repeat (first | refine blk_drewN ?_ _ | refine blk_drew ?_ | refine blk_alloc ?_ _)); refine blk_put (cs := #[.int .u64 0, .int .u64 0, .int .u64 0, .int .u64 0]) ?_ 0 _ rfl; (with_reducible repeat (first | refine blk_drewN ?_ _ | refine blk_drew ?_ | refine blk_alloc ?_ _)); exact BK203.out⟩, ⟨by repeat (first | (with_reducible first | exact HB.out | apply below_alloc | apply pw_below_drewN | apply below_drew1 | refine below_set ?_ GE184.out | refine below_set ?_ GE185.out | refine below_set ?_ GE190.out | refine below_set ?_ GE196.out | refine below_set ?_ GE203.out) | exact HB.out)⟩⟩
                            · rw [if_neg c69] at H
                              have c69b0 : decide (t199 < t200) = false := decide_eq_false c69
                              clear c69
                              by_cases c79 : t199 > t198
                              · rw [if_pos c79] at H
                                have c79b0 : decide (t198 < t199) = true := decide_eq_true c79
                                clear c79
                                have H' := Aside0.mk H
                                clear H
                                have hnb80 := NB203_184.out
                                have hnc80 := NB184_203.out
                                have hnb81 := NB203_185.out
                                have hnc81 := NB185_203.out
                                have hnb82 := NB203_190.out
                                have hnc82 := NB190_203.out
                                have hnb83 := NB203_196.out
                                have hnc83 := NB196_203.out
                                have hcz84_0 : w44.cell? ⟨gb203, 0, none⟩ = some (.int .u64 0) := (blk_cell BK203.out 0).trans rfl
                                have hcz84_1 : w44.cell? ⟨gb203, 1, none⟩ = some (.int .u64 0) := (blk_cell BK203.out 1).trans rfl
                                have hcz84_2 : w44.cell? ⟨gb203, 2, none⟩ = some (.int .u64 0) := (blk_cell BK203.out 2).trans rfl
                                have hcz84_3 : w44.cell? ⟨gb203, 3, none⟩ = some (.int .u64 0) := (blk_cell BK203.out 3).trans rfl
                                have hfz84_0 := blk_frozen BK203.out 0
                                have hfz84_1 := blk_frozen BK203.out 1
                                have hfz84_2 := blk_frozen BK203.out 2
                                have hfz84_3 := blk_frozen BK203.out 3
                                have hnb85 := NB196_184.out
                                have hnc85 := NB184_196.out
                                have hnb86 := NB196_185.out
                                have hnc86 := NB185_196.out
                                have hnb87 := NB196_190.out
                                have hnc87 := NB190_196.out
                                have hcz88_0 : w44.cell? ⟨gb196, 0, none⟩ = some (.int .u64 t191) := (blk_cell BK196.out 0).trans rfl
                                have hcz88_1 : w44.cell? ⟨gb196, 1, none⟩ = some (.int .u64 t192) := (blk_cell BK196.out 1).trans rfl
                                have hcz88_2 : w44.cell? ⟨gb196, 2, none⟩ = some (.int .u64 t193) := (blk_cell BK196.out 2).trans rfl
                                have hcz88_3 : w44.cell? ⟨gb196, 3, none⟩ = some (.int .u64 t194) := (blk_cell BK196.out 3).trans rfl
                                have hfz88_0 := blk_frozen BK196.out 0
                                have hfz88_1 := blk_frozen BK196.out 1
                                have hfz88_2 := blk_frozen BK196.out 2
                                have hfz88_3 := blk_frozen BK196.out 3
                                go_wp2
                                go_meet
                                case rel => exact ⟨_, (true), (by first | rfl | (simp; done) | (simp [*]; done)), H', ⟨by have := HK1.out; have := HJ11.out; have := HJ17.out; first | omega | exact Nat.le_refl _⟩, ⟨by (with_reducible repeat (first | refine blk_drewN ?_ _ | refine blk_drew ?_ | refine blk_alloc ?_ _)); refine blk_far ?_ NB184_203.out _; (with_reducible repeat (first | refine blk_drewN ?_ _ | refine blk_drew ?_ | refine blk_alloc ?_ _)); refine blk_far ?_ NB184_203.out _; (with_reducible repeat (first | refine blk_drewN ?_ _ | refine blk_drew ?_ | refine blk_alloc ?_ _)); refine blk_far ?_ NB184_203.out _; (with_reducible repeat (first | refine blk_drewN ?_ _ | refine blk_drew ?_ | refine blk_alloc ?_ _)); refine blk_far ?_ NB184_203.out _; (with_reducible repeat (first | refine blk_drewN ?_ _ | refine blk_drew ?_ | refine blk_alloc ?_ _)); exact BK184.out⟩, ⟨by (with_reducible repeat (first | refine blk_drewN ?_ _ | refine blk_drew ?_ | refine blk_alloc ?_ _)); refine blk_far ?_ NB185_203.out _; (with_reducible repeat (first | refine blk_drewN ?_ _ | refine blk_drew ?_ | refine blk_alloc ?_ _)); refine blk_far ?_ NB185_203.out _; (with_reducible repeat (first | refine blk_drewN ?_ _ | refine blk_drew ?_ | refine blk_alloc ?_ _)); refine blk_far ?_ NB185_203.out _; (with_reducible repeat (first | refine blk_drewN ?_ _ | refine blk_drew ?_ | refine blk_alloc ?_ _)); refine blk_far ?_ NB185_203.out _; (with_reducible repeat (first | refine blk_drewN ?_ _ | refine blk_drew ?_ | refine blk_alloc ?_ _)); exact BK185.out⟩, ⟨by (with_reducible repeat (first | refine blk_drewN ?_ _ | refine blk_drew ?_ | refine blk_alloc ?_ _)); refine blk_far ?_ NB190_203.out _; (with_reducible repeat (first | refine blk_drewN ?_ _ | refine blk_drew ?_ | refine blk_alloc ?_ _)); refine blk_far ?_ NB190_203.out _; (with_reducible repeat (first | refine blk_drewN ?_ _ | refine blk_drew ?_ | refine blk_alloc ?_ _)); refine blk_far ?_ NB190_203.out _; (with_reducible repeat (first | refine blk_drewN ?_ _ | refine blk_drew ?_ | refine blk_alloc ?_ _)); refine blk_far ?_ NB190_203.out _; (with_reducible repeat (first | refine blk_drewN ?_ _ | refine blk_drew ?_ | refine blk_alloc ?_ _)); exact BK190.out⟩, ⟨by (with_reducible repeat (first | refine blk_drewN ?_ _ | refine blk_drew ?_ | refine blk_alloc ?_ _)); refine blk_far ?_ NB196_203.out _; (with_reducible repeat (first | refine blk_drewN ?_ _ | refine blk_drew ?_ | refine blk_alloc ?_ _)); refine blk_far ?_ NB196_203.out _; (with_reducible repeat (first | refine blk_drewN ?_ _ | refine blk_drew ?_ | refine blk_alloc ?_ _)); refine blk_far ?_ NB196_203.out _; (with_reducible repeat (first | refine blk_drewN ?_ _ | refine blk_drew ?_ | refine blk_alloc ?_ _)); refine blk_far ?_ NB196_203.out _; (with_reducible repeat (first | refine blk_drewN ?_ _ | refine blk_drew ?_ | refine blk_alloc ?_ _)); exact BK196.out⟩, ⟨by (with_reducible repeat (first | refine blk_drewN ?_ _ | refine blk_drew ?_ | refine blk_alloc ?_ _)); refine blk_put (cs := #[.int .u64 t198, .int .u64 t199, .int .u64 t200, .int .u64 0]) ?_ 3 _ rfl; (with_reducible repeat (first | refine blk_drewN ?_ _ | refine blk_drew ?_ | refine blk_alloc ?_ _)); refine blk_put (cs := #[.int .u64 t198, .int .u64 t199, .int .u64 0, .int .u64 0]) ?_ 2 _ rfl; (with_reducible repeat (first | refine blk_drewN ?_ _ | refine blk_drew ?_ | refine blk_alloc ?_ _)); refine blk_put (cs := #[.int .u64 t198, .int .u64 0, .int .u64 0, .int .u64 0]) ?_ 1 _ rfl; (with_reducible repeat (first | refine blk_drewN ?_ _ | refine blk_drew ?_ | refine blk_alloc ?_ _)); refine blk_put (cs := #[.int .u64 0, .int .u64 0, .int .u64 0, .int .u64 0]) ?_ 0 _ rfl; (with_reducible repeat (first | refine blk_drewN ?_ _ | refine blk_drew ?_ | refine blk_alloc ?_ _)); exact BK203.out⟩, ⟨by repeat (first | (with_reducible first | exact HB.out | apply below_alloc | apply pw_below_drewN | apply below_drew1 | refine below_set ?_ GE184.out | refine below_set ?_ GE185.out | refine below_set ?_ GE190.out | refine below_set ?_ GE196.out | refine below_set ?_ GE203.out) | exact HB.out)⟩⟩
                              · rw [if_neg c79] at H
                                have c79b0 : decide (t198 < t199) = false := decide_eq_false c79
                                clear c79
                                have H' := Aside0.mk H
                                clear H
                                have hnb89 := NB203_184.out
                                have hnc89 := NB184_203.out
                                have hnb90 := NB203_185.out
                                have hnc90 := NB185_203.out
                                have hnb91 := NB203_190.out
                                have hnc91 := NB190_203.out
                                have hnb92 := NB203_196.out
                                have hnc92 := NB196_203.out
                                have hcz93_0 : w44.cell? ⟨gb203, 0, none⟩ = some (.int .u64 0) := (blk_cell BK203.out 0).trans rfl
                                have hcz93_1 : w44.cell? ⟨gb203, 1, none⟩ = some (.int .u64 0) := (blk_cell BK203.out 1).trans rfl
                                have hcz93_2 : w44.cell? ⟨gb203, 2, none⟩ = some (.int .u64 0) := (blk_cell BK203.out 2).trans rfl
                                have hcz93_3 : w44.cell? ⟨gb203, 3, none⟩ = some (.int .u64 0) := (blk_cell BK203.out 3).trans rfl
                                have hfz93_0 := blk_frozen BK203.out 0
                                have hfz93_1 := blk_frozen BK203.out 1
                                have hfz93_2 := blk_frozen BK203.out 2
                                have hfz93_3 := blk_frozen BK203.out 3
                                have hnb94 := NB196_184.out
                                have hnc94 := NB184_196.out
                                have hnb95 := NB196_185.out
                                have hnc95 := NB185_196.out
                                have hnb96 := NB196_190.out
                                have hnc96 := NB190_196.out
                                have hcz97_0 : w44.cell? ⟨gb196, 0, none⟩ = some (.int .u64 t191) := (blk_cell BK196.out 0).trans rfl
                                have hcz97_1 : w44.cell? ⟨gb196, 1, none⟩ = some (.int .u64 t192) := (blk_cell BK196.out 1).trans rfl
                                have hcz97_2 : w44.cell? ⟨gb196, 2, none⟩ = some (.int .u64 t193) := (blk_cell BK196.out 2).trans rfl
                                have hcz97_3 : w44.cell? ⟨gb196, 3, none⟩ = some (.int .u64 t194) := (blk_cell BK196.out 3).trans rfl
                                have hfz97_0 := blk_frozen BK196.out 0
                                have hfz97_1 := blk_frozen BK196.out 1
                                have hfz97_2 := blk_frozen BK196.out 2
                                have hfz97_3 := blk_frozen BK196.out 3
                                go_wp2
                                go_meet
                                case rel => exact ⟨_, (decide ((IntKind.u64.wrap (t198 - t200)) < (IntKind.u64.wrap (Int.tdiv (IntKind.u64.wrap (a0)) 2)))), (by first | rfl | (simp; done) | (simp [*]; done)), H', ⟨by have := HK1.out; have := HJ11.out; have := HJ17.out; first | omega | exact Nat.le_refl _⟩, ⟨by (with_reducible repeat (first | refine blk_drewN ?_ _ | refine blk_drew ?_ | refine blk_alloc ?_ _)); refine blk_far ?_ NB184_203.out _; (with_reducible repeat (first | refine blk_drewN ?_ _ | refine blk_drew ?_ | refine blk_alloc ?_ _)); refine blk_far ?_ NB184_203.out _; (with_reducible repeat (first | refine blk_drewN ?_ _ | refine blk_drew ?_ | refine blk_alloc ?_ _)); refine blk_far ?_ NB184_203.out _; (with_reducible repeat (first | refine blk_drewN ?_ _ | refine blk_drew ?_ | refine blk_alloc ?_ _)); refine blk_far ?_ NB184_203.out _; (with_reducible repeat (first | refine blk_drewN ?_ _ | refine blk_drew ?_ | refine blk_alloc ?_ _)); exact BK184.out⟩, ⟨by (with_reducible repeat (first | refine blk_drewN ?_ _ | refine blk_drew ?_ | refine blk_alloc ?_ _)); refine blk_far ?_ NB185_203.out _; (with_reducible repeat (first | refine blk_drewN ?_ _ | refine blk_drew ?_ | refine blk_alloc ?_ _)); refine blk_far ?_ NB185_203.out _; (with_reducible repeat (first | refine blk_drewN ?_ _ | refine blk_drew ?_ | refine blk_alloc ?_ _)); refine blk_far ?_ NB185_203.out _; (with_reducible repeat (first | refine blk_drewN ?_ _ | refine blk_drew ?_ | refine blk_alloc ?_ _)); refine blk_far ?_ NB185_203.out _; (with_reducible repeat (first | refine blk_drewN ?_ _ | refine blk_drew ?_ | refine blk_alloc ?_ _)); exact BK185.out⟩, ⟨by (with_reducible repeat (first | refine blk_drewN ?_ _ | refine blk_drew ?_ | refine blk_alloc ?_ _)); refine blk_far ?_ NB190_203.out _; (with_reducible repeat (first | refine blk_drewN ?_ _ | refine blk_drew ?_ | refine blk_alloc ?_ _)); refine blk_far ?_ NB190_203.out _; (with_reducible repeat (first | refine blk_drewN ?_ _ | refine blk_drew ?_ | refine blk_alloc ?_ _)); refine blk_far ?_ NB190_203.out _; (with_reducible repeat (first | refine blk_drewN ?_ _ | refine blk_drew ?_ | refine blk_alloc ?_ _)); refine blk_far ?_ NB190_203.out _; (with_reducible repeat (first | refine blk_drewN ?_ _ | refine blk_drew ?_ | refine blk_alloc ?_ _)); exact BK190.out⟩, ⟨by (with_reducible repeat (first | refine blk_drewN ?_ _ | refine blk_drew ?_ | refine blk_alloc ?_ _)); refine blk_far ?_ NB196_203.out _; (with_reducible repeat (first | refine blk_drewN ?_ _ | refine blk_drew ?_ | refine blk_alloc ?_ _)); refine blk_far ?_ NB196_203.out _; (with_reducible repeat (first | refine blk_drewN ?_ _ | refine blk_drew ?_ | refine blk_alloc ?_ _)); refine blk_far ?_ NB196_203.out _; (with_reducible repeat (first | refine blk_drewN ?_ _ | refine blk_drew ?_ | refine blk_alloc ?_ _)); refine blk_far ?_ NB196_203.out _; (with_reducible repeat (first | refine blk_drewN ?_ _ | refine blk_drew ?_ | refine blk_alloc ?_ _)); exact BK196.out⟩, ⟨by (with_reducible repeat (first | refine blk_drewN ?_ _ | refine blk_drew ?_ | refine blk_alloc ?_ _)); refine blk_put (cs := #[.int .u64 t198, .int .u64 t199, .int .u64 t200, .int .u64 0]) ?_ 3 _ rfl; (with_reducible repeat (first | refine blk_drewN ?_ _ | refine blk_drew ?_ | refine blk_alloc ?_ _)); refine blk_put (cs := #[.int .u64 t198, .int .u64 t199, .int .u64 0, .int .u64 0]) ?_ 2 _ rfl; (with_reducible repeat (first | refine blk_drewN ?_ _ | refine blk_drew ?_ | refine blk_alloc ?_ _)); refine blk_put (cs := #[.int .u64 t198, .int .u64 0, .int .u64 0, .int .u64 0]) ?_ 1 _ rfl; (with_reducible repeat (first | refine blk_drewN ?_ _ | refine blk_drew ?_ | refine blk_alloc ?_ _)); refine blk_put (cs := #[.int .u64 0, .int .u64 0, .int .u64 0, .int .u64 0]) ?_ 0 _ rfl; (with_reducible repeat (first | refine blk_drewN ?_ _ | refine blk_drew ?_ | refine blk_alloc ?_ _)); exact BK203.out⟩, ⟨by repeat (first | (with_reducible first | exact HB.out | apply below_alloc | apply pw_below_drewN | apply below_drew1 | refine below_set ?_ GE184.out | refine below_set ?_ GE185.out | refine below_set ?_ GE190.out | refine below_set ?_ GE196.out | refine below_set ?_ GE203.out) | exact HB.out)⟩⟩
                      case rest =>
                        clear HC40
                        try clear c1
                        try clear p1
                        try clear q1
                        try clear hx1
                        try clear p2
                        try clear c4
                        try clear c5
                        try clear c6
                        try clear c7
                        try clear c8
                        try clear c9
                        try clear c14
                        try clear p19
                        try clear q19
                        try clear hx19
                        try clear c49
                        try clear c49b0
                        try clear c50
                        try clear c51
                        try clear c52
                        try clear c53
                        try clear c55
                        try clear c56
                        try clear c57
                        try clear c59
                        try clear c59b0
                        try clear c59b1
                        try clear c59b2
                        try clear c60
                        try clear c61
                        try clear c62
                        try clear c63
                        try clear c65
                        try clear c66
                        try clear c67
                        try clear c69
                        try clear c69b0
                        try clear c70
                        try clear c71
                        try clear c72
                        try clear c73
                        try clear c75
                        try clear c76
                        try clear c77
                        try clear c79
                        try clear c79b0
                        try clear c80
                        try clear c81
                        try clear c82
                        try clear c83
                        try clear c85
                        try clear c86
                        try clear c87
                        try clear c89
                        try clear c90
                        try clear c91
                        try clear c92
                        try clear c94
                        try clear c95
                        try clear c96
                        try clear hcz54_0
                        try clear hcz54_1
                        try clear hcz54_2
                        try clear hcz54_3
                        try clear hcz58_0
                        try clear hcz58_1
                        try clear hcz58_2
                        try clear hcz58_3
                        try clear hcz64_0
                        try clear hcz64_1
                        try clear hcz64_2
                        try clear hcz64_3
                        try clear hcz68_0
                        try clear hcz68_1
                        try clear hcz68_2
                        try clear hcz68_3
                        try clear hcz74_0
                        try clear hcz74_1
                        try clear hcz74_2
                        try clear hcz74_3
                        try clear hcz78_0
                        try clear hcz78_1
                        try clear hcz78_2
                        try clear hcz78_3
                        try clear hcz84_0
                        try clear hcz84_1
                        try clear hcz84_2
                        try clear hcz84_3
                        try clear hcz88_0
                        try clear hcz88_1
                        try clear hcz88_2
                        try clear hcz88_3
                        try clear hcz93_0
                        try clear hcz93_1
                        try clear hcz93_2
                        try clear hcz93_3
                        try clear hcz97_0
                        try clear hcz97_1
                        try clear hcz97_2
                        try clear hcz97_3
                        try clear hfz54_0
                        try clear hfz54_1
                        try clear hfz54_2
                        try clear hfz54_3
                        try clear hfz58_0
                        try clear hfz58_1
                        try clear hfz58_2
                        try clear hfz58_3
                        try clear hfz64_0
                        try clear hfz64_1
                        try clear hfz64_2
                        try clear hfz64_3
                        try clear hfz68_0
                        try clear hfz68_1
                        try clear hfz68_2
                        try clear hfz68_3
                        try clear hfz74_0
                        try clear hfz74_1
                        try clear hfz74_2
                        try clear hfz74_3
                        try clear hfz78_0
                        try clear hfz78_1
                        try clear hfz78_2
                        try clear hfz78_3
                        try clear hfz84_0
                        try clear hfz84_1
                        try clear hfz84_2
                        try clear hfz84_3
                        try clear hfz88_0
                        try clear hfz88_1
                        try clear hfz88_2
                        try clear hfz88_3
                        try clear hfz93_0
                        try clear hfz93_1
                        try clear hfz93_2
                        try clear hfz93_3
                        try clear hfz97_0
                        try clear hfz97_1
                        try clear hfz97_2
                        try clear hfz97_3
                        try clear hx197_0
                        try clear p197
                        try clear q197
                        obtain ⟨kq, x101_39, rfl, HA, HJ39, BK184, BK185, BK190, BK196, BK203, HB⟩ := hcut
                        cases kq with
                        | zero => exact absurd HA.out (by simp [wigwaglaw19_CreditMeets.j3])
                        | succ kj39 =>
                          have H := HA.out
                          clear HA
                          simp only [wigwaglaw19_CreditMeets.j3] at H
                          by_cases c98 : x101_39 = true
                          · subst c98
                            have H1 : (some false) = some r := by rw [if_pos rfl] at H; exact H
                            clear H
                            have H := H1
                            clear H1
                            obtain rfl := Option.some.inj H
                            go_wp2
                            go_ret
                            exact ⟨by first | rfl | (simp [errW_none, errW_some] <;> rfl) | (simp [*, errW_none, errW_some] <;> rfl), by repeat (first | (with_reducible first | exact HB.out | apply below_alloc | apply pw_below_drewN | apply below_drew1 | refine below_set ?_ GE184.out | refine below_set ?_ GE185.out | refine below_set ?_ GE190.out | refine below_set ?_ GE196.out | refine below_set ?_ GE203.out) | exact HB.out)⟩
                          · replace c98 := Bool.eq_false_iff.mpr c98
                            subst c98
                            have H1 : ((credit_Raise.f t187 t188 t198).bind fun bt204 => (wigwaglaw19_CreditMeets.l0 kj39 a0 l1 t179 (wrap64 (x8_1 + 1)) t198 t199 t200 t201 bt204.1 bt204.2)) = some r := by rw [if_neg (show ¬ (false = true) by decide)] at H; exact H
                            clear H
                            have H := H1
                            clear H1
                            replace H := Option.bind_eq_some_iff.mp H
                            obtain ⟨⟨t204, t205⟩, A990, H⟩ := H
                            replace H : (wigwaglaw19_CreditMeets.l0 kj39 a0 l1 t179 (wrap64 (x8_1 + 1)) t198 t199 t200 t201 t204 t205) = some r := H
                            have A99 := Aside0.mk A990
                            clear A990
                            have H' := Aside0.mk H
                            clear H
                            have hnb100 := NB203_184.out
                            have hnc100 := NB184_203.out
                            have hnb101 := NB203_185.out
                            have hnc101 := NB185_203.out
                            have hnb102 := NB203_190.out
                            have hnc102 := NB190_203.out
                            have hnb103 := NB203_196.out
                            have hnc103 := NB196_203.out
                            have hcz104_0 : wc.cell? ⟨gb203, 0, none⟩ = some (.int .u64 t198) := (blk_cell BK203.out 0).trans rfl
                            have hcz104_1 : wc.cell? ⟨gb203, 1, none⟩ = some (.int .u64 t199) := (blk_cell BK203.out 1).trans rfl
                            have hcz104_2 : wc.cell? ⟨gb203, 2, none⟩ = some (.int .u64 t200) := (blk_cell BK203.out 2).trans rfl
                            have hcz104_3 : wc.cell? ⟨gb203, 3, none⟩ = some (.int .u64 t201) := (blk_cell BK203.out 3).trans rfl
                            have hfz104_0 := blk_frozen BK203.out 0
                            have hfz104_1 := blk_frozen BK203.out 1
                            have hfz104_2 := blk_frozen BK203.out 2
                            have hfz104_3 := blk_frozen BK203.out 3
                            have hnb105 := NB184_185.out
                            have hnc105 := NB185_184.out
                            have hnb106 := NB184_190.out
                            have hnc106 := NB190_184.out
                            have hnb107 := NB184_196.out
                            have hnc107 := NB196_184.out
                            have hcz108_0 : wc.cell? ⟨gb184, 0, none⟩ = some (.int .u64 x185000_1) := (blk_cell BK184.out 0).trans rfl
                            have hcz108_1 : wc.cell? ⟨gb184, 1, none⟩ = some (.int .u64 x185001_1) := (blk_cell BK184.out 1).trans rfl
                            have hcz108_2 : wc.cell? ⟨gb184, 2, none⟩ = some (.int .u64 x185002_1) := (blk_cell BK184.out 2).trans rfl
                            have hcz108_3 : wc.cell? ⟨gb184, 3, none⟩ = some (.int .u64 x185003_1) := (blk_cell BK184.out 3).trans rfl
                            have hfz108_0 := blk_frozen BK184.out 0
                            have hfz108_1 := blk_frozen BK184.out 1
                            have hfz108_2 := blk_frozen BK184.out 2
                            have hfz108_3 := blk_frozen BK184.out 3
                            have hnb109 := NB190_185.out
                            have hnc109 := NB185_190.out
                            have hnb110 := NB190_196.out
                            have hnc110 := NB196_190.out
                            have hcz111_0 : wc.cell? ⟨gb190, 0, none⟩ = some (.int .u64 t187) := (blk_cell BK190.out 0).trans rfl
                            have hcz111_1 : wc.cell? ⟨gb190, 1, none⟩ = some (.int .u64 t188) := (blk_cell BK190.out 1).trans rfl
                            have hfz111_0 := blk_frozen BK190.out 0
                            have hfz111_1 := blk_frozen BK190.out 1
                            go_wp2_with (first | ((with_reducible refine gate_callee (f := 18) rfl ?_); refine goesL_ (some 106) rfl rfl Try.func18 (by kernel_rfl) rfl #[.agg #[.int .u64 t187, .int .u64 t188], .int .u64 t198] rfl (by (try simp only [List.map_toArray, List.map_cons, List.map_nil]); first | done | rfl | (simp only [List.length_drop, List.length_take]; rfl)) ?_; (with_reducible refine (credit_Raise.calls t187 t188 t198 t204 t205 _ A99.out).mono ?_); rintro e w112 ⟨rfl, hb⟩; refine ⟨_, rfl, ?_⟩; have n0_ := Aside0.mk (blk_below (g := gb184) (o := .cells #[.int .u64 t198, .int .u64 t199, .int .u64 t200, .int .u64 t201] 27 (0, 0)) (by (with_reducible repeat (first | refine blk_drewN ?_ _ | refine blk_drew ?_ | refine blk_alloc ?_ _)); refine blk_put (cs := #[.int .u64 t198, .int .u64 t199, .int .u64 t200, .int .u64 x185003_1]) ?_ 3 _ rfl; (with_reducible repeat (first | refine blk_drewN ?_ _ | refine blk_drew ?_ | refine blk_alloc ?_ _)); refine blk_put (cs := #[.int .u64 t198, .int .u64 t199, .int .u64 x185002_1, .int .u64 x185003_1]) ?_ 2 _ rfl; (with_reducible repeat (first | refine blk_drewN ?_ _ | refine blk_drew ?_ | refine blk_alloc ?_ _)); refine blk_put (cs := #[.int .u64 t198, .int .u64 x185001_1, .int .u64 x185002_1, .int .u64 x185003_1]) ?_ 1 _ rfl; (with_reducible repeat (first | refine blk_drewN ?_ _ | refine blk_drew ?_ | refine blk_alloc ?_ _)); refine blk_put (cs := #[.int .u64 x185000_1, .int .u64 x185001_1, .int .u64 x185002_1, .int .u64 x185003_1]) ?_ 0 _ rfl; (with_reducible repeat (first | refine blk_drewN ?_ _ | refine blk_drew ?_ | refine blk_alloc ?_ _)); exact BK184.out) hb); have n1_ := Aside0.mk (blk_below (g := gb185) (o := .cells #[.int .u64 x186000_1, .int .u64 x186001_1] 25 (0, 0)) (by (with_reducible repeat (first | refine blk_drewN ?_ _ | refine blk_drew ?_ | refine blk_alloc ?_ _)); refine blk_far ?_ NB185_184.out _; (with_reducible repeat (first | refine blk_drewN ?_ _ | refine blk_drew ?_ | refine blk_alloc ?_ _)); refine blk_far ?_ NB185_184.out _; (with_reducible repeat (first | refine blk_drewN ?_ _ | refine blk_drew ?_ | refine blk_alloc ?_ _)); refine blk_far ?_ NB185_184.out _; (with_reducible repeat (first | refine blk_drewN ?_ _ | refine blk_drew ?_ | refine blk_alloc ?_ _)); refine blk_far ?_ NB185_184.out _; (with_reducible repeat (first | refine blk_drewN ?_ _ | refine blk_drew ?_ | refine blk_alloc ?_ _)); exact BK185.out) hb); have n2_ := Aside0.mk (blk_below (g := gb190) (o := .cells #[.int .u64 t187, .int .u64 t188] 25 (0, 0)) (by (with_reducible repeat (first | refine blk_drewN ?_ _ | refine blk_drew ?_ | refine blk_alloc ?_ _)); refine blk_far ?_ NB190_184.out _; (with_reducible repeat (first | refine blk_drewN ?_ _ | refine blk_drew ?_ | refine blk_alloc ?_ _)); refine blk_far ?_ NB190_184.out _; (with_reducible repeat (first | refine blk_drewN ?_ _ | refine blk_drew ?_ | refine blk_alloc ?_ _)); refine blk_far ?_ NB190_184.out _; (with_reducible repeat (first | refine blk_drewN ?_ _ | refine blk_drew ?_ | refine blk_alloc ?_ _)); refine blk_far ?_ NB190_184.out _; (with_reducible repeat (first | refine blk_drewN ?_ _ | refine blk_drew ?_ | refine blk_alloc ?_ _)); exact BK190.out) hb); have n3_ := Aside0.mk (blk_below (g := gb196) (o := .cells #[.int .u64 t191, .int .u64 t192, .int .u64 t193, .int .u64 t194] 27 (0, 0)) (by (with_reducible repeat (first | refine blk_drewN ?_ _ | refine blk_drew ?_ | refine blk_alloc ?_ _)); refine blk_far ?_ NB196_184.out _; (with_reducible repeat (first | refine blk_drewN ?_ _ | refine blk_drew ?_ | refine blk_alloc ?_ _)); refine blk_far ?_ NB196_184.out _; (with_reducible repeat (first | refine blk_drewN ?_ _ | refine blk_drew ?_ | refine blk_alloc ?_ _)); refine blk_far ?_ NB196_184.out _; (with_reducible repeat (first | refine blk_drewN ?_ _ | refine blk_drew ?_ | refine blk_alloc ?_ _)); refine blk_far ?_ NB196_184.out _; (with_reducible repeat (first | refine blk_drewN ?_ _ | refine blk_drew ?_ | refine blk_alloc ?_ _)); exact BK196.out) hb); have n4_ := Aside0.mk (blk_below (g := gb203) (o := .cells #[.int .u64 t198, .int .u64 t199, .int .u64 t200, .int .u64 t201] 27 (0, 0)) (by (with_reducible repeat (first | refine blk_drewN ?_ _ | refine blk_drew ?_ | refine blk_alloc ?_ _)); refine blk_far ?_ NB203_184.out _; (with_reducible repeat (first | refine blk_drewN ?_ _ | refine blk_drew ?_ | refine blk_alloc ?_ _)); refine blk_far ?_ NB203_184.out _; (with_reducible repeat (first | refine blk_drewN ?_ _ | refine blk_drew ?_ | refine blk_alloc ?_ _)); refine blk_far ?_ NB203_184.out _; (with_reducible repeat (first | refine blk_drewN ?_ _ | refine blk_drew ?_ | refine blk_alloc ?_ _)); refine blk_far ?_ NB203_184.out _; (with_reducible repeat (first | refine blk_drewN ?_ _ | refine blk_drew ?_ | refine blk_alloc ?_ _)); exact BK203.out) hb); have n5_ := Aside0.mk (below_step (by repeat (first | (with_reducible first | exact HB.out | apply below_alloc | apply pw_below_drewN | apply below_drew1 | refine below_set ?_ GE184.out | refine below_set ?_ GE185.out | refine below_set ?_ GE190.out | refine below_set ?_ GE196.out | refine below_set ?_ GE203.out) | exact HB.out)) hb); clear BK184; clear BK185; clear BK190; clear BK196; clear BK203; clear HB; have BK184 := n0_; have BK185 := n1_; have BK190 := n2_; have BK196 := n3_; have BK203 := n4_; have HB := n5_; clear n0_ n1_ n2_ n3_ n4_ n5_; (try clear hb); (try clear hb2); (try clear hk); (try clear hi); have hnb113 := NB185_196.out; have hnc113 := NB196_185.out; have hcz114_0 : w112.cell? ⟨gb185, 0, none⟩ = some (.int .u64 x186000_1) := (blk_cell BK185.out 0).trans rfl; have hcz114_1 : w112.cell? ⟨gb185, 1, none⟩ = some (.int .u64 x186001_1) := (blk_cell BK185.out 1).trans rfl; have hfz114_0 := blk_frozen BK185.out 0; have hfz114_1 := blk_frozen BK185.out 1))
                            go_roundg kj39
                            case measure => have := HK1.out; have := HJ11.out; have := HJ17.out; have := HJ39.out; omega
                            case rel => exact ⟨(wrap64 (x8_1 + 1)), (t198), (t199), (t200), (t201), (t204), (t205), (by first | rfl | (simp; done) | (simp [*]; done)), H', ⟨by have := HK1.out; have := HJ11.out; have := HJ17.out; have := HJ39.out; omega⟩, ⟨by (with_reducible repeat (first | refine blk_drewN ?_ _ | refine blk_drew ?_ | refine blk_alloc ?_ _)); refine blk_far ?_ NB184_185.out _; (with_reducible repeat (first | refine blk_drewN ?_ _ | refine blk_drew ?_ | refine blk_alloc ?_ _)); refine blk_far ?_ NB184_185.out _; (with_reducible repeat (first | refine blk_drewN ?_ _ | refine blk_drew ?_ | refine blk_alloc ?_ _)); exact BK184.out⟩, ⟨by (with_reducible repeat (first | refine blk_drewN ?_ _ | refine blk_drew ?_ | refine blk_alloc ?_ _)); refine blk_put (cs := #[.int .u64 t204, .int .u64 x186001_1]) ?_ 1 _ rfl; (with_reducible repeat (first | refine blk_drewN ?_ _ | refine blk_drew ?_ | refine blk_alloc ?_ _)); refine blk_put (cs := #[.int .u64 x186000_1, .int .u64 x186001_1]) ?_ 0 _ rfl; (with_reducible repeat (first | refine blk_drewN ?_ _ | refine blk_drew ?_ | refine blk_alloc ?_ _)); exact BK185.out⟩, ⟨by repeat (first | (with_reducible first | exact HB.out | apply below_alloc | apply pw_below_drewN | apply below_drew1 | refine below_set ?_ GE184.out | refine below_set ?_ GE185.out | refine below_set ?_ GE190.out | refine below_set ?_ GE196.out | refine below_set ?_ GE203.out) | exact HB.out)⟩⟩
                    · rw [if_neg c38] at H
                      exact absurd H (by simp)
                  · rw [if_neg c37] at H
                    exact absurd H (by simp)
          · replace c14 := Bool.eq_false_iff.mpr c14
            subst c14
            have H1 : (some t179) = some r := by rw [if_neg (show ¬ (false = true) by decide)] at H; exact H
            clear H
            have H := H1
            clear H1
            obtain rfl := Option.some.inj H
            go_wp2
            go_ret
            exact ⟨by first | rfl | (simp [errW_none, errW_some] <;> rfl) | (simp [*, errW_none, errW_some] <;> rfl), by repeat (first | (with_reducible first | exact HB.out | apply below_alloc | apply pw_below_drewN | apply below_drew1 | refine below_set ?_ GE184.out | refine below_set ?_ GE185.out) | exact HB.out)⟩

/-- THE ONE PURE STATEMENT of wigwaglaw19_CreditMeets: yours. -/
def wigwaglaw19_CreditMeets.Pure : Prop := ∀ (a0 : Int) (l1 : List Int), (Lit.int .u32 a0).wf = true → l1.length ≤ maxLen → l1.length * 4 ≤ 140737488351232 → (∀ x ∈ l1, (Lit.int .u32 x).wf = true) → ∃ k, wigwaglaw19_CreditMeets.f k a0 l1 = some true
theorem wigwaglaw19_CreditMeets.walk (P : wigwaglaw19_CreditMeets.Pure) (a0 : Int) (a1 : Option Addr) (len1 cap1 : Nat) (z1 : List Int) (w : World) (w0 : (Lit.int .u32 a0).wf = true) (w1 : (a1 = none ∧ len1 = 0 ∧ cap1 = 0 ∧ z1 = []) ∨ ∃ x, a1 = some x ∧ len1 ≤ cap1 ∧ cap1 ≤ maxLen ∧ z1.length = cap1 ∧ (∀ i, i < z1.length → w.cell? (x.add i) = some (.int .u32 (z1.getD i 0))) ∧ ∀ n ∈ z1, (Lit.int .u32 n).wf = true) (y1 : len1 * 4 ≤ 140737488351232) :
    Calls Try.prog 6 #[.int .u32 a0, .slice a1 len1 cap1] w fun e w' => e = .returned (.bool true) ∧ Below w.heap.size w w' := by
  obtain ⟨l1, rfl, hr1, hm1, hw1, hc1⟩ := ReadsInt.ofRowC w1
  obtain ⟨k, h⟩ := P a0 l1 w0 hm1 y1 hw1
  refine (wigwaglaw19_CreditMeets.calls k a0 _ _ l1 true w (Kd.C_of_reads (d := (0 : Int)) (h1 := fun _ => rfl) hr1) hc1 h).mono ?_
  rintro e w' ⟨rfl, hd⟩
  exact ⟨rfl, hd⟩

end Go.Proofs.Ytgfmmbgljbabbaa.P
