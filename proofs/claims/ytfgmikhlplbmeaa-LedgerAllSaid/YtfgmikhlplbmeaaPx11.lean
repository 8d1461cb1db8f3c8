-- Printed for this claim by xprint.py of this session: contracts of this session's own stand in for what the print does not take
import Derived.Test.YtfgmikhlplbmeaaPx0
import Derived.Test.YtfgmikhlplbmeaaPx5
namespace Go.Proofs.Ytfgmikhlplbmeaa.P
open Go.RowKit Go.Proofs.YtfgmikhlplbmeaaW.PrintWords Go.Proofs.YtfgmikhlplbmeaaW.PrintLast Go.Proofs.YtfgmikhlplbmeaaW.PrintMore
attribute [local go_sem] max2_int min2_int max_two min_two max_three min_three max_four min_four   -- for this text's walks alone
set_option linter.unusedVariables false
set_option linter.unusedSimpArgs false

/-! ### ledger_Long: function 21 -/
mutual
def ledger_Long.l0 : Nat → List (S37) → Int → Int → List (S37) → Int → Int → Option (Bool)
  | 0, _, _, _, _, _, _ => none
  | k + 1, x0, x1, x5, x8, x9, x10 => if x10 < x9 then (if 0 ≤ x10 then (if x10 < (x8.length : Int) then (if x10 = 0 then (ledger_Long.j1 k x0 x1 x5 x8 x9 x10 true ((rd_T37 x8 x10).f0) ((rd_T37 x8 x10).f1) ((rd_T37 x8 x10).f2) ((rd_T37 x8 x10).f3)) else (if 0 ≤ (wrap64 (x10 - 1)) then (if (wrap64 (x10 - 1)) < (x0.length : Int) then ((fix_Add.f ((rd_T37 x0 (wrap64 (x10 - 1))).f0) 1).bind fun t191 => (ledger_Long.j1 k x0 x1 x5 x8 x9 x10 (((rd_T37 x8 x10).f0) != t191) ((rd_T37 x8 x10).f0) ((rd_T37 x8 x10).f1) ((rd_T37 x8 x10).f2) ((rd_T37 x8 x10).f3))) else (none)) else (none))) else (none)) else (none)) else (some false)
def ledger_Long.j1 : Nat → List (S37) → Int → Int → List (S37) → Int → Int → Bool → Int → Int → Int → Bool → Option (Bool)
  | 0, _, _, _, _, _, _, _, _, _, _, _ => none
  | k + 1, x0, x1, x5, x8, x9, x10, x28, x190000, x190001, x190002, x190003 => if x28 = true then (ledger_Long.l0 k x0 x1 x190001 x8 x9 (wrap64 (x10 + 1))) else ((fix_Add.f x5 x1).bind fun t192 => (if x190001 ≥ t192 then (some true) else (ledger_Long.l0 k x0 x1 (mn x5 x190001) x8 x9 (wrap64 (x10 + 1)))))
end
def ledger_Long.f (k : Nat) (l0 : List (S37)) (a1 : Int) : Option (Bool) := ledger_Long.l0 k l0 a1 0 l0 (l0.length : Int) 0
theorem ledger_Long.mono_l : ∀ k, (∀ y0 y1 y2 y3 y4 y5, LeO (ledger_Long.l0 k y0 y1 y2 y3 y4 y5) (ledger_Long.l0 (k + 1) y0 y1 y2 y3 y4 y5)) ∧ (∀ y0 y1 y2 y3 y4 y5 y6 y7 y8 y9 y10, LeO (ledger_Long.j1 k y0 y1 y2 y3 y4 y5 y6 y7 y8 y9 y10) (ledger_Long.j1 (k + 1) y0 y1 y2 y3 y4 y5 y6 y7 y8 y9 y10))
  | 0 => ⟨fun _ _ _ _ _ _ r h => by simp [ledger_Long.l0] at h, fun _ _ _ _ _ _ _ _ _ _ _ r h => by simp [ledger_Long.j1] at h⟩
  | k + 1 => by
    obtain ⟨ih0, ih1⟩ := ledger_Long.mono_l k
    refine ⟨?_, ?_⟩
    · intro y0 y1 y2 y3 y4 y5
      unfold ledger_Long.l0
      repeat' first
      | (with_reducible exact ih0 _ _ _ _ _ _)
      | (with_reducible exact ih1 _ _ _ _ _ _ _ _ _ _ _)
      | (with_reducible exact LeO.refl _)
      | (with_reducible exact LeO.none _)
      | (with_reducible refine LeO.ite ?_ ?_)
      | (with_reducible refine LeO.bind ?_ (fun _ => ?_))
      | exact ih0 _ _ _ _ _ _
      | exact ih1 _ _ _ _ _ _ _ _ _ _ _
      | exact LeO.none _
      | refine LeO.ite ?_ ?_
      | refine LeO.bind ?_ (fun _ => ?_)
    · intro y0 y1 y2 y3 y4 y5 y6 y7 y8 y9 y10
      unfold ledger_Long.j1
      repeat' first
      | (with_reducible exact ih0 _ _ _ _ _ _)
      | (with_reducible exact ih1 _ _ _ _ _ _ _ _ _ _ _)
      | (with_reducible exact LeO.refl _)
      | (with_reducible exact LeO.none _)
      | (with_reducible refine LeO.ite ?_ ?_)
      | (with_reducible refine LeO.bind ?_ (fun _ => ?_))
      | exact ih0 _ _ _ _ _ _
      | exact ih1 _ _ _ _ _ _ _ _ _ _ _
      | exact LeO.none _
      | refine LeO.ite ?_ ?_
      | refine LeO.bind ?_ (fun _ => ?_)
theorem ledger_Long.mono : ∀ a0 a1 k, LeO (ledger_Long.f k a0 a1) (ledger_Long.f (k + 1) a0 a1) := by
  intro a0 a1 k
  obtain ⟨ih0, ih1⟩ := ledger_Long.mono_l k
  unfold ledger_Long.f
  repeat' first
      | (with_reducible exact ih0 _ _ _ _ _ _)
      | (with_reducible exact ih1 _ _ _ _ _ _ _ _ _ _ _)
      | (with_reducible exact LeO.refl _)
      | (with_reducible exact LeO.none _)
      | (with_reducible refine LeO.ite ?_ ?_)
      | (with_reducible refine LeO.bind ?_ (fun _ => ?_))
      | exact ih0 _ _ _ _ _ _
      | exact ih1 _ _ _ _ _ _ _ _ _ _ _
      | exact LeO.none _
      | refine LeO.ite ?_ ?_
      | refine LeO.bind ?_ (fun _ => ?_)
set_option maxHeartbeats 8000000 in
set_option maxRecDepth 100000 in
theorem ledger_Long.calls (k : Nat) (A0 : Option Addr) (c0 : Nat) (l0 : List (S37)) (a1 : Int) (r : Bool) (w : World) (hr0 : Kd.C k37 w A0 l0.length l0) (hc0 : l0.length ≤ c0) (h : ledger_Long.f k l0 a1 = some r) :
    Calls Try.prog 21 #[.slice A0 l0.length c0, .int .u64 a1] w fun e w' => e = .returned (.bool r) ∧ Below w.heap.size w w' := by
  have hu37 := Try.underlying37
  have HR0 := Aside0.mk hr0
  have HC0 := Aside0.mk hc0
  clear hr0 hc0
  have HB := Aside0.mk (Below.refl w.heap.size w)
  have H : (ledger_Long.l0 k l0 a1 0 l0 (l0.length : Int) 0) = some r := h
  clear h
  have H' := Aside0.mk H
  clear H
  go_enter Try.func21, Try.ntmps21
  go_wp2
  repeat (go_quiet (fail); try go_wp2)
  go_loopg [5, 10] k (fun kq v5 v10 w' => ∃ (x5_1 : Int) (x10_1 : Int), v5 = .int .u64 x5_1 ∧ v10 = .int .i64 x10_1 ∧ Aside0 (ledger_Long.l0 kq l0 a1 x5_1 l0 (l0.length : Int) x10_1 = some r) ∧ Aside0 (kq ≤ k) ∧ Aside0 (Below w.heap.size w w'))
  case atStart => exact ⟨(0), (0), (by first | rfl | (simp; done) | (simp [*]; done)), (by first | rfl | (simp; done) | (simp [*]; done)), H', ⟨Nat.le_refl _⟩, ⟨by repeat (first | (with_reducible first | exact HB.out | apply below_alloc | apply pw_below_drewN | apply below_drew1) | exact HB.out)⟩⟩
  case round =>
    clear H'
    try clear c2
    try clear p2
    obtain ⟨x5_1, x10_1, rfl, rfl, HA, HK1, HB⟩ := hrel
    cases gk with
    | zero => exact absurd HA.out (by simp [ledger_Long.l0])
    | succ k1 =>
      have H := HA.out
      clear HA
      simp only [ledger_Long.l0] at H
      by_cases c3 : x10_1 < (l0.length : Int)
      · rw [if_pos c3] at H
        have c3b0 : decide (x10_1 < (l0.length : Int)) = true := decide_eq_true c3
        clear c3
        by_cases c4 : 0 ≤ x10_1
        · rw [if_pos c4] at H
          have c4b0 : decide (0 ≤ x10_1) = true := decide_eq_true c4
          clear c4
          by_cases c5 : x10_1 < (l0.length : Int)
          · rw [if_pos c5] at H
            have c5b0 : decide (x10_1 < (l0.length : Int)) = true := decide_eq_true c5
            clear c5
            have HC6 := Aside0.mk H
            clear H
            have p188 : 0 ≤ (x10_1 : Int) := of_decide_eq_true (by first | (with_reducible assumption) | assumption)
            have q188 : x10_1 < (l0.length : Int) := of_decide_eq_true (by first | (with_reducible assumption) | assumption)
            obtain ⟨ad188, e188, hx188_0, hx188_1, hx188_2, hx188_3⟩ := at_T37 HR0.out x10_1 p188 q188
            cases e188
            replace hx188_0 := (HB.out.cell (World.block_lt_of_cell? w _ hx188_0)).trans hx188_0
            replace hx188_1 := (HB.out.cell (World.block_lt_of_cell? w _ hx188_1)).trans hx188_1
            replace hx188_2 := (HB.out.cell (World.block_lt_of_cell? w _ hx188_2)).trans hx188_2
            replace hx188_3 := (HB.out.cell (World.block_lt_of_cell? w _ hx188_3)).trans hx188_3
            replace p188 := eq_true p188
            replace q188 := eq_true q188
            go_upto_region 5 with (first | ((with_reducible refine gate_dst (N := 7) rfl ?_); refine box_event ?hg (N := 7) ?hd (cs := #[.int .u64 0, .int .u64 0, .int .u64 0, .bool false]) (t := 37) ?hr ?_; (case hd => rfl); (case hg => rfl); (case hr => first | (go_simp; done) | (go_simp; rfl)); intro gb189 hg w7 hbox hb; have n0_ := Aside0.mk (below_step (by repeat (first | (with_reducible first | exact HB.out | apply below_alloc | apply pw_below_drewN | apply below_drew1) | exact HB.out)) hb); have n1_ := Aside0.mk (hbox); have n2_ := Aside0.mk ((by rw [hg]; exact (below_size (by repeat (first | (with_reducible first | exact HB.out | apply below_alloc | apply pw_below_drewN | apply below_drew1) | exact HB.out))) : w.heap.size ≤ gb189)); have n3_ := Aside0.mk ((by rw [hg]; exact (below_size (by repeat (first | (with_reducible first | exact HB.out | apply below_alloc | apply pw_below_drewN | apply below_drew1) | exact HB.out))) : w.heap.size ≤ gb189)); clear HB; have HB := n0_; have BK189 := n1_; have GW189 := n2_; have GE189 := n3_; clear n0_ n1_ n2_ n3_; clear hb hbox hg; have hcz8_0 : w7.cell? ⟨gb189, 0, none⟩ = some (.int .u64 0) := (blk_cell BK189.out 0).trans rfl; have hcz8_1 : w7.cell? ⟨gb189, 1, none⟩ = some (.int .u64 0) := (blk_cell BK189.out 1).trans rfl; have hcz8_2 : w7.cell? ⟨gb189, 2, none⟩ = some (.int .u64 0) := (blk_cell BK189.out 2).trans rfl; have hcz8_3 : w7.cell? ⟨gb189, 3, none⟩ = some (.bool false) := (blk_cell BK189.out 3).trans rfl; have hfz8_0 := blk_frozen BK189.out 0; have hfz8_1 := blk_frozen BK189.out 1; have hfz8_2 := blk_frozen BK189.out 2; have hfz8_3 := blk_frozen BK189.out 3))
            repeat (go_quiet (first | ((with_reducible refine gate_dst (N := 7) rfl ?_); refine box_event ?hg (N := 7) ?hd (cs := #[.int .u64 0, .int .u64 0, .int .u64 0, .bool false]) (t := 37) ?hr ?_; (case hd => rfl); (case hg => rfl); (case hr => first | (go_simp; done) | (go_simp; rfl)); intro gb189 hg w7 hbox hb; have n0_ := Aside0.mk (below_step (by repeat (first | (with_reducible first | exact HB.out | apply below_alloc | apply pw_below_drewN | apply below_drew1) | exact HB.out)) hb); have n1_ := Aside0.mk (hbox); have n2_ := Aside0.mk ((by rw [hg]; exact (below_size (by repeat (first | (with_reducible first | exact HB.out | apply below_alloc | apply pw_below_drewN | apply below_drew1) | exact HB.out))) : w.heap.size ≤ gb189)); have n3_ := Aside0.mk ((by rw [hg]; exact (below_size (by repeat (first | (with_reducible first | exact HB.out | apply below_alloc | apply pw_below_drewN | apply below_drew1) | exact HB.out))) : w.heap.size ≤ gb189)); clear HB; have HB := n0_; have BK189 := n1_; have GW189 := n2_; have GE189 := n3_; clear n0_ n1_ n2_ n3_; clear hb hbox hg; have hcz8_0 : w7.cell? ⟨gb189, 0, none⟩ = some (.int .u64 0) := (blk_cell BK189.out 0).trans rfl; have hcz8_1 : w7.cell? ⟨gb189, 1, none⟩ = some (.int .u64 0) := (blk_cell BK189.out 1).trans rfl; have hcz8_2 : w7.cell? ⟨gb189, 2, none⟩ = some (.int .u64 0) := (blk_cell BK189.out 2).trans rfl; have hcz8_3 : w7.cell? ⟨gb189, 3, none⟩ = some (.bool false) := (blk_cell BK189.out 3).trans rfl; have hfz8_0 := blk_frozen BK189.out 0; have hfz8_1 := blk_frozen BK189.out 1; have hfz8_2 := blk_frozen BK189.out 2; have hfz8_3 := blk_frozen BK189.out 3)); go_upto_region 5 with (first | ((with_reducible refine gate_dst (N := 7) rfl ?_); refine box_event ?hg (N := 7) ?hd (cs := #[.int .u64 0, .int .u64 0, .int .u64 0, .bool false]) (t := 37) ?hr ?_; (case hd => rfl); (case hg => rfl); (case hr => first | (go_simp; done) | (go_simp; rfl)); intro gb189 hg w7 hbox hb; have n0_ := Aside0.mk (below_step (by repeat (first | (with_reducible first | exact HB.out | apply below_alloc | apply pw_below_drewN | apply below_drew1) | exact HB.out)) hb); have n1_ := Aside0.mk (hbox); have n2_ := Aside0.mk ((by rw [hg]; exact (below_size (by repeat (first | (with_reducible first | exact HB.out | apply below_alloc | apply pw_below_drewN | apply below_drew1) | exact HB.out))) : w.heap.size ≤ gb189)); have n3_ := Aside0.mk ((by rw [hg]; exact (below_size (by repeat (first | (with_reducible first | exact HB.out | apply below_alloc | apply pw_below_drewN | apply below_drew1) | exact HB.out))) : w.heap.size ≤ gb189)); clear HB; have HB := n0_; have BK189 := n1_; have GW189 := n2_; have GE189 := n3_; clear n0_ n1_ n2_ n3_; clear hb hbox hg; have hcz8_0 : w7.cell? ⟨gb189, 0, none⟩ = some (.int .u64 0) := (blk_cell BK189.out 0).trans rfl; have hcz8_1 : w7.cell? ⟨gb189, 1, none⟩ = some (.int .u64 0) := (blk_cell BK189.out 1).trans rfl; have hcz8_2 : w7.cell? ⟨gb189, 2, none⟩ = some (.int .u64 0) := (blk_cell BK189.out 2).trans rfl; have hcz8_3 : w7.cell? ⟨gb189, 3, none⟩ = some (.bool false) := (blk_cell BK189.out 3).trans rfl; have hfz8_0 := blk_frozen BK189.out 0; have hfz8_1 := blk_frozen BK189.out 1; have hfz8_2 := blk_frozen BK189.out 2; have hfz8_3 := blk_frozen BK189.out 3)))
            (try simp only [Act.put, List.setIfInBounds_toArray, List.set_cons_zero, List.set_cons_succ])
            go_cut [28] (fun v28 wc => ∃ (kq : Nat) (x28_5 : Bool), v28 = .bool x28_5 ∧ Aside0 (ledger_Long.j1 kq l0 a1 x5_1 l0 (l0.length : Int) x10_1 x28_5 ((rd_T37 l0 x10_1).f0) ((rd_T37 l0 x10_1).f1) ((rd_T37 l0 x10_1).f2) ((rd_T37 l0 x10_1).f3) = some r) ∧ Aside0 (kq ≤ k1) ∧ Aside0 (wc.heap[gb189]? = some (.cells #[.int .u64 ((rd_T37 l0 x10_1).f0), .int .u64 ((rd_T37 l0 x10_1).f1), .int .u64 ((rd_T37 l0 x10_1).f2), .bool ((rd_T37 l0 x10_1).f3)] 37 (0, 0))) ∧ Aside0 (Below w.heap.size w wc))
            case first =>
              have H := HC6.out
              clear HC6
              by_cases c9 : x10_1 = 0
              · rw [if_pos c9] at H
                have c9b0 : (x10_1 == 0) = true := beq_iff_eq.mpr c9
                have c9b1 : (x10_1 != 0) = false := bne_eq_false_iff_eq.mpr c9
                clear c9
                (first | rw [c9b0] | (simp only [i64_w, i32_w]; rw [c9b0]) | skip)
                have H' := Aside0.mk H
                clear H
                go_wp2
                repeat (go_quiet (fail); try go_wp2)
                go_meet
                case rel => exact ⟨_, (true), (by first | rfl | (simp; done) | (simp [*]; done)), H', ⟨by have := HK1.out; first | omega | exact Nat.le_refl _⟩, ⟨by (with_reducible repeat (first | refine blk_drewN ?_ _ | refine blk_drew ?_ | refine blk_alloc ?_ _)); refine blk_put (cs := #[.int .u64 ((rd_T37 l0 x10_1).f0), .int .u64 ((rd_T37 l0 x10_1).f1), .int .u64 ((rd_T37 l0 x10_1).f2), .bool false]) ?_ 3 _ rfl; (with_reducible repeat (first | refine blk_drewN ?_ _ | refine blk_drew ?_ | refine blk_alloc ?_ _)); refine blk_put (cs := #[.int .u64 ((rd_T37 l0 x10_1).f0), .int .u64 ((rd_T37 l0 x10_1).f1), .int .u64 0, .bool false]) ?_ 2 _ rfl; (with_reducible repeat (first | refine blk_drewN ?_ _ | refine blk_drew ?_ | refine blk_alloc ?_ _)); refine blk_put (cs := #[.int .u64 ((rd_T37 l0 x10_1).f0), .int .u64 0, .int .u64 0, .bool false]) ?_ 1 _ rfl; (with_reducible repeat (first | refine blk_drewN ?_ _ | refine blk_drew ?_ | refine blk_alloc ?_ _)); refine blk_put (cs := #[.int .u64 0, .int .u64 0, .int .u64 0, .bool false]) ?_ 0 _ rfl; (with_reducible repeat (first | refine blk_drewN ?_ _ | refine blk_drew ?_ | refine blk_alloc ?_ _)); exact BK189.out⟩, ⟨by repeat (first | (with_reducible first | exact HB.out | apply below_alloc | apply pw_below_drewN | apply below_drew1 | refine below_set ?_ GE189.out) | exact HB.out)⟩⟩
              · rw [if_neg c9] at H
                have c9b0 : (x10_1 == 0) = false := beq_eq_false_iff_ne.mpr c9
                have c9b1 : (x10_1 != 0) = true := bne_iff_ne.mpr c9
                (first | rw [c9b0] | (simp only [i64_w, i32_w]; rw [c9b0]) | skip)
                obtain ⟨ji10, hji10⟩ : ∃ j_ : Int, (wrap64 (x10_1 - 1)) = j_ := ⟨_, rfl⟩
                replace H : (if 0 ≤ (ji10) then (if (ji10) < (l0.length : Int) then ((fix_Add.f ((rd_T37 l0 (ji10)).f0) 1).bind fun t191 => (ledger_Long.j1 k1 l0 a1 x5_1 l0 (l0.length : Int) x10_1 (((rd_T37 l0 x10_1).f0) != t191) ((rd_T37 l0 x10_1).f0) ((rd_T37 l0 x10_1).f1) ((rd_T37 l0 x10_1).f2) ((rd_T37 l0 x10_1).f3))) else (none)) else (none)) = some r := by first | (rw [hji10] at H; exact H) | (simp only [hji10] at H ⊢; exact H)
                have hji10w : (IntKind.i64.wrap (x10_1 - 1)) = ji10 := (i64_w _).trans hji10
                by_cases c11 : 0 ≤ (ji10)
                · rw [if_pos c11] at H
                  have c11b0 : decide (0 ≤ (ji10)) = true := decide_eq_true c11
                  clear c11
                  by_cases c12 : (ji10) < (l0.length : Int)
                  · rw [if_pos c12] at H
                    have c12b0 : decide ((ji10) < (l0.length : Int)) = true := decide_eq_true c12
                    clear c12
                    replace H := Option.bind_eq_some_iff.mp H
                    obtain ⟨t191, A130, H⟩ := H
                    replace H : (ledger_Long.j1 k1 l0 a1 x5_1 l0 (l0.length : Int) x10_1 (((rd_T37 l0 x10_1).f0) != t191) ((rd_T37 l0 x10_1).f0) ((rd_T37 l0 x10_1).f1) ((rd_T37 l0 x10_1).f2) ((rd_T37 l0 x10_1).f3)) = some r := H
                    have A13 := Aside0.mk A130
                    clear A130
                    have H' := Aside0.mk H
                    clear H
                    have hcz14_0 : w7.cell? ⟨gb189, 0, none⟩ = some (.int .u64 0) := (blk_cell BK189.out 0).trans rfl
                    have hcz14_1 : w7.cell? ⟨gb189, 1, none⟩ = some (.int .u64 0) := (blk_cell BK189.out 1).trans rfl
                    have hcz14_2 : w7.cell? ⟨gb189, 2, none⟩ = some (.int .u64 0) := (blk_cell BK189.out 2).trans rfl
                    have hcz14_3 : w7.cell? ⟨gb189, 3, none⟩ = some (.bool false) := (blk_cell BK189.out 3).trans rfl
                    have hfz14_0 := blk_frozen BK189.out 0
                    have hfz14_1 := blk_frozen BK189.out 1
                    have hfz14_2 := blk_frozen BK189.out 2
                    have hfz14_3 := blk_frozen BK189.out 3
                    have p190 : 0 ≤ ((ji10) : Int) := of_decide_eq_true (by first | (with_reducible assumption) | assumption)
                    have q190 : (ji10) < (l0.length : Int) := of_decide_eq_true (by first | (with_reducible assumption) | assumption)
                    obtain ⟨ad190, e190, hx190_0, hx190_1, hx190_2, hx190_3⟩ := at_T37 HR0.out (ji10) p190 q190
                    obtain rfl : ad188 = ad190 := (by injection e190)
                    have hn190_0 : ad188.block ≠ gb189 := Nat.ne_of_lt (Nat.lt_of_lt_of_le (by have := World.block_lt_of_cell? _ _ hx190_0; first | rwa [add_block] at this | exact this) GW189.out)
                    have hn190_1 : ad188.block ≠ gb189 := Nat.ne_of_lt (Nat.lt_of_lt_of_le (by have := World.block_lt_of_cell? _ _ hx190_0; first | rwa [add_block] at this | exact this) GW189.out)
                    have hn190_2 : ad188.block ≠ gb189 := Nat.ne_of_lt (Nat.lt_of_lt_of_le (by have := World.block_lt_of_cell? _ _ hx190_0; first | rwa [add_block] at this | exact this) GW189.out)
                    have hn190_3 : ad188.block ≠ gb189 := Nat.ne_of_lt (Nat.lt_of_lt_of_le (by have := World.block_lt_of_cell? _ _ hx190_0; first | rwa [add_block] at this | exact this) GW189.out)
                    replace hx190_0 := (HB.out.cell (World.block_lt_of_cell? w _ hx190_0)).trans hx190_0
                    replace hx190_1 := (HB.out.cell (World.block_lt_of_cell? w _ hx190_1)).trans hx190_1
                    replace hx190_2 := (HB.out.cell (World.block_lt_of_cell? w _ hx190_2)).trans hx190_2
                    replace hx190_3 := (HB.out.cell (World.block_lt_of_cell? w _ hx190_3)).trans hx190_3
                    replace hx190_0 := (cell_far (p := ⟨gb189, 0, none⟩) (by first | (rw [add_block]; exact hn190_0) | (show (Addr.add _ _).block ≠ _; rw [add_block]; exact hn190_0) | exact hn190_0) (.int .u64 ((rd_T37 l0 x10_1).f0))).trans hx190_0
                    replace hx190_1 := (cell_far (p := ⟨gb189, 0, none⟩) (by first | (rw [add_block]; exact hn190_0) | (show (Addr.add _ _).block ≠ _; rw [add_block]; exact hn190_0) | exact hn190_0) (.int .u64 ((rd_T37 l0 x10_1).f0))).trans hx190_1
                    replace hx190_2 := (cell_far (p := ⟨gb189, 0, none⟩) (by first | (rw [add_block]; exact hn190_0) | (show (Addr.add _ _).block ≠ _; rw [add_block]; exact hn190_0) | exact hn190_0) (.int .u64 ((rd_T37 l0 x10_1).f0))).trans hx190_2
                    replace hx190_3 := (cell_far (p := ⟨gb189, 0, none⟩) (by first | (rw [add_block]; exact hn190_0) | (show (Addr.add _ _).block ≠ _; rw [add_block]; exact hn190_0) | exact hn190_0) (.int .u64 ((rd_T37 l0 x10_1).f0))).trans hx190_3
                    replace hx190_0 := (cell_far (p := ⟨gb189, 1, none⟩) (by first | (rw [add_block]; exact hn190_1) | (show (Addr.add _ _).block ≠ _; rw [add_block]; exact hn190_1) | exact hn190_1) (.int .u64 ((rd_T37 l0 x10_1).f1))).trans hx190_0
                    replace hx190_1 := (cell_far (p := ⟨gb189, 1, none⟩) (by first | (rw [add_block]; exact hn190_1) | (show (Addr.add _ _).block ≠ _; rw [add_block]; exact hn190_1) | exact hn190_1) (.int .u64 ((rd_T37 l0 x10_1).f1))).trans hx190_1
                    replace hx190_2 := (cell_far (p := ⟨gb189, 1, none⟩) (by first | (rw [add_block]; exact hn190_1) | (show (Addr.add _ _).block ≠ _; rw [add_block]; exact hn190_1) | exact hn190_1) (.int .u64 ((rd_T37 l0 x10_1).f1))).trans hx190_2
                    replace hx190_3 := (cell_far (p := ⟨gb189, 1, none⟩) (by first | (rw [add_block]; exact hn190_1) | (show (Addr.add _ _).block ≠ _; rw [add_block]; exact hn190_1) | exact hn190_1) (.int .u64 ((rd_T37 l0 x10_1).f1))).trans hx190_3
                    replace hx190_0 := (cell_far (p := ⟨gb189, 2, none⟩) (by first | (rw [add_block]; exact hn190_2) | (show (Addr.add _ _).block ≠ _; rw [add_block]; exact hn190_2) | exact hn190_2) (.int .u64 ((rd_T37 l0 x10_1).f2))).trans hx190_0
                    replace hx190_1 := (cell_far (p := ⟨gb189, 2, none⟩) (by first | (rw [add_block]; exact hn190_2) | (show (Addr.add _ _).block ≠ _; rw [add_block]; exact hn190_2) | exact hn190_2) (.int .u64 ((rd_T37 l0 x10_1).f2))).trans hx190_1
                    replace hx190_2 := (cell_far (p := ⟨gb189, 2, none⟩) (by first | (rw [add_block]; exact hn190_2) | (show (Addr.add _ _).block ≠ _; rw [add_block]; exact hn190_2) | exact hn190_2) (.int .u64 ((rd_T37 l0 x10_1).f2))).trans hx190_2
                    replace hx190_3 := (cell_far (p := ⟨gb189, 2, none⟩) (by first | (rw [add_block]; exact hn190_2) | (show (Addr.add _ _).block ≠ _; rw [add_block]; exact hn190_2) | exact hn190_2) (.int .u64 ((rd_T37 l0 x10_1).f2))).trans hx190_3
                    replace hx190_0 := (cell_far (p := ⟨gb189, 3, none⟩) (by first | (rw [add_block]; exact hn190_3) | (show (Addr.add _ _).block ≠ _; rw [add_block]; exact hn190_3) | exact hn190_3) (.bool ((rd_T37 l0 x10_1).f3))).trans hx190_0
                    replace hx190_1 := (cell_far (p := ⟨gb189, 3, none⟩) (by first | (rw [add_block]; exact hn190_3) | (show (Addr.add _ _).block ≠ _; rw [add_block]; exact hn190_3) | exact hn190_3) (.bool ((rd_T37 l0 x10_1).f3))).trans hx190_1
                    replace hx190_2 := (cell_far (p := ⟨gb189, 3, none⟩) (by first | (rw [add_block]; exact hn190_3) | (show (Addr.add _ _).block ≠ _; rw [add_block]; exact hn190_3) | exact hn190_3) (.bool ((rd_T37 l0 x10_1).f3))).trans hx190_2
                    replace hx190_3 := (cell_far (p := ⟨gb189, 3, none⟩) (by first | (rw [add_block]; exact hn190_3) | (show (Addr.add _ _).block ≠ _; rw [add_block]; exact hn190_3) | exact hn190_3) (.bool ((rd_T37 l0 x10_1).f3))).trans hx190_3
                    (try have hy190_0 := fun (n_ : Nat) => (show ((((((w7.drewN n_).setCell ⟨gb189, 0, none⟩ (.int .u64 ((rd_T37 l0 x10_1).f0))).setCell ⟨gb189, 1, none⟩ (.int .u64 ((rd_T37 l0 x10_1).f1))).setCell ⟨gb189, 2, none⟩ (.int .u64 ((rd_T37 l0 x10_1).f2))).setCell ⟨gb189, 3, none⟩ (.bool ((rd_T37 l0 x10_1).f3)))).cell? _ = some _ from hx190_0))
                    (try have hy190_1 := fun (n_ : Nat) => (show ((((((w7.drewN n_).setCell ⟨gb189, 0, none⟩ (.int .u64 ((rd_T37 l0 x10_1).f0))).setCell ⟨gb189, 1, none⟩ (.int .u64 ((rd_T37 l0 x10_1).f1))).setCell ⟨gb189, 2, none⟩ (.int .u64 ((rd_T37 l0 x10_1).f2))).setCell ⟨gb189, 3, none⟩ (.bool ((rd_T37 l0 x10_1).f3)))).cell? _ = some _ from hx190_1))
                    (try have hy190_2 := fun (n_ : Nat) => (show ((((((w7.drewN n_).setCell ⟨gb189, 0, none⟩ (.int .u64 ((rd_T37 l0 x10_1).f0))).setCell ⟨gb189, 1, none⟩ (.int .u64 ((rd_T37 l0 x10_1).f1))).setCell ⟨gb189, 2, none⟩ (.int .u64 ((rd_T37 l0 x10_1).f2))).setCell ⟨gb189, 3, none⟩ (.bool ((rd_T37 l0 x10_1).f3)))).cell? _ = some _ from hx190_2))
                    (try have hy190_3 := fun (n_ : Nat) => (show ((((((w7.drewN n_).setCell ⟨gb189, 0, none⟩ (.int .u64 ((rd_T37 l0 x10_1).f0))).setCell ⟨gb189, 1, none⟩ (.int .u64 ((rd_T37 l0 x10_1).f1))).setCell ⟨gb189, 2, none⟩ (.int .u64 ((rd_T37 l0 x10_1).f2))).setCell ⟨gb189, 3, none⟩ (.bool ((rd_T37 l0 x10_1).f3)))).cell? _ = some _ from hx190_3))
                    clear hn190_0
                    clear hn190_1
                    clear hn190_2
                    clear hn190_3
                    replace p190 := eq_true p190
                    replace q190 := eq_true q190
                    go_wp2_with (first | (go_at_call 28; (with_reducible refine (fix_Add.calls ((rd_T37 l0 (ji10)).f0) 1 t191 _ A13.out).mono ?_); rintro e w' ⟨rfl, ⟨nd, rfl⟩⟩; (try first | exact ⟨rfl, _, World.drewN_drewN _ _ _⟩ | exact ⟨rfl, _, Eq.trans (World.drewN_drewN _ _ _) (congrArg (World.drewN _) (Nat.add_assoc _ _ _))⟩)))
                    repeat (go_quiet (first | (go_at_call 28; (with_reducible refine (fix_Add.calls ((rd_T37 l0 (ji10)).f0) 1 t191 _ A13.out).mono ?_); rintro e w' ⟨rfl, ⟨nd, rfl⟩⟩; (try first | exact ⟨rfl, _, World.drewN_drewN _ _ _⟩ | exact ⟨rfl, _, Eq.trans (World.drewN_drewN _ _ _) (congrArg (World.drewN _) (Nat.add_assoc _ _ _))⟩))); try go_wp2_with (first | (go_at_call 28; (with_reducible refine (fix_Add.calls ((rd_T37 l0 (ji10)).f0) 1 t191 _ A13.out).mono ?_); rintro e w' ⟨rfl, ⟨nd, rfl⟩⟩; (try first | exact ⟨rfl, _, World.drewN_drewN _ _ _⟩ | exact ⟨rfl, _, Eq.trans (World.drewN_drewN _ _ _) (congrArg (World.drewN _) (Nat.add_assoc _ _ _))⟩))))
                    go_meet
                    case rel => exact ⟨_, ((((rd_T37 l0 x10_1).f0) != t191)), (by first | rfl | (simp; done) | (simp [*]; done)), H', ⟨by have := HK1.out; first | omega | exact Nat.le_refl _⟩, ⟨by (with_reducible repeat (first | refine blk_drewN ?_ _ | refine blk_drew ?_ | refine blk_alloc ?_ _)); refine blk_put (cs := #[.int .u64 ((rd_T37 l0 x10_1).f0), .int .u64 ((rd_T37 l0 x10_1).f1), .int .u64 ((rd_T37 l0 x10_1).f2), .bool false]) ?_ 3 _ rfl; (with_reducible repeat (first | refine blk_drewN ?_ _ | refine blk_drew ?_ | refine blk_alloc ?_ _)); refine blk_put (cs := #[.int .u64 ((rd_T37 l0 x10_1).f0), .int .u64 ((rd_T37 l0 x10_1).f1), .int .u64 0, .bool false]) ?_ 2 _ rfl; (with_reducible repeat (first | refine blk_drewN ?_ _ | refine blk_drew ?_ | refine blk_alloc ?_ _)); refine blk_put (cs := #[.int .u64 ((rd_T37 l0 x10_1).f0), .int .u64 0, .int .u64 0, .bool false]) ?_ 1 _ rfl; (with_reducible repeat (first | refine blk_drewN ?_ _ | refine blk_drew ?_ | refine blk_alloc ?_ _)); refine blk_put (cs := #[.int .u64 0, .int .u64 0, .int .u64 0, .bool false]) ?_ 0 _ rfl; (with_reducible repeat (first | refine blk_drewN ?_ _ | refine blk_drew ?_ | refine blk_alloc ?_ _)); exact BK189.out⟩, ⟨by repeat (first | (with_reducible first | exact HB.out | apply below_alloc | apply pw_below_drewN | apply below_drew1 | refine below_set ?_ GE189.out) | exact HB.out)⟩⟩
                  · rw [if_neg c12] at H
                    exact absurd H (by simp)
                · rw [if_neg c11] at H
                  exact absurd H (by simp)
            case rest =>
              clear HC6
              try clear c1
              try clear p1
              try clear q1
              try clear hx1
              try clear c2
              try clear p2
              try clear c3
              try clear c3b0
              try clear c4
              try clear c4b0
              try clear c5
              try clear c5b0
              try clear p6
              try clear c9
              try clear c9b0
              try clear c9b1
              try clear c11
              try clear c11b0
              try clear c12
              try clear c12b0
              try clear hcz14_0
              try clear hcz14_1
              try clear hcz14_2
              try clear hcz14_3
              try clear hcz8_0
              try clear hcz8_1
              try clear hcz8_2
              try clear hcz8_3
              try clear hfz14_0
              try clear hfz14_1
              try clear hfz14_2
              try clear hfz14_3
              try clear hfz8_0
              try clear hfz8_1
              try clear hfz8_2
              try clear hfz8_3
              try clear hx188_0
              try clear hx188_1
              try clear hx188_2
              try clear hx188_3
              try clear hx190_0
              try clear hx190_1
              try clear hx190_2
              try clear hx190_3
              try clear p188
              try clear p190
              try clear p2
              try clear q188
              try clear q190
              obtain ⟨kq, x28_5, rfl, HA, HJ5, BK189, HB⟩ := hcut
              cases kq with
              | zero => exact absurd HA.out (by simp [ledger_Long.j1])
              | succ kj5 =>
                have H := HA.out
                clear HA
                simp only [ledger_Long.j1] at H
                by_cases c15 : x28_5 = true
                · subst c15
                  have H1 : (ledger_Long.l0 kj5 l0 a1 ((rd_T37 l0 x10_1).f1) l0 (l0.length : Int) (wrap64 (x10_1 + 1))) = some r := by rw [if_pos rfl] at H; exact H
                  clear H
                  have H := H1
                  clear H1
                  have H' := Aside0.mk H
                  clear H
                  have hcz16_0 : wc.cell? ⟨gb189, 0, none⟩ = some (.int .u64 ((rd_T37 l0 x10_1).f0)) := (blk_cell BK189.out 0).trans rfl
                  have hcz16_1 : wc.cell? ⟨gb189, 1, none⟩ = some (.int .u64 ((rd_T37 l0 x10_1).f1)) := (blk_cell BK189.out 1).trans rfl
                  have hcz16_2 : wc.cell? ⟨gb189, 2, none⟩ = some (.int .u64 ((rd_T37 l0 x10_1).f2)) := (blk_cell BK189.out 2).trans rfl
                  have hcz16_3 : wc.cell? ⟨gb189, 3, none⟩ = some (.bool ((rd_T37 l0 x10_1).f3)) := (blk_cell BK189.out 3).trans rfl
                  have hfz16_0 := blk_frozen BK189.out 0
                  have hfz16_1 := blk_frozen BK189.out 1
                  have hfz16_2 := blk_frozen BK189.out 2
                  have hfz16_3 := blk_frozen BK189.out 3
                  go_wp2
                  repeat (go_quiet (fail); try go_wp2)
                  go_roundg kj5
                  case measure => have := HK1.out; have := HJ5.out; omega
                  case rel => exact ⟨(((rd_T37 l0 x10_1).f1)), (wrap64 (x10_1 + 1)), (by first | rfl | (simp; done) | (simp [*]; done)), (by first | rfl | (simp; done) | (simp [*]; done)), H', ⟨by have := HK1.out; have := HJ5.out; omega⟩, ⟨by repeat (first | (with_reducible first | exact HB.out | apply below_alloc | apply pw_below_drewN | apply below_drew1 | refine below_set ?_ GE189.out) | exact HB.out)⟩⟩
                · replace c15 := Bool.eq_false_iff.mpr c15
                  subst c15
                  have H1 : ((fix_Add.f x5_1 a1).bind fun t192 => (if ((rd_T37 l0 x10_1).f1) ≥ t192 then (some true) else (ledger_Long.l0 kj5 l0 a1 (mn x5_1 ((rd_T37 l0 x10_1).f1)) l0 (l0.length : Int) (wrap64 (x10_1 + 1))))) = some r := by rw [if_neg (show ¬ (false = true) by decide)] at H; exact H
                  clear H
                  have H := H1
                  clear H1
                  replace H := Option.bind_eq_some_iff.mp H
                  obtain ⟨t192, A170, H⟩ := H
                  replace H : (if ((rd_T37 l0 x10_1).f1) ≥ t192 then (some true) else (ledger_Long.l0 kj5 l0 a1 (mn x5_1 ((rd_T37 l0 x10_1).f1)) l0 (l0.length : Int) (wrap64 (x10_1 + 1)))) = some r := H
                  have A17 := Aside0.mk A170
                  clear A170
                  by_cases c18 : ((rd_T37 l0 x10_1).f1) ≥ t192
                  · rw [if_pos c18] at H
                    have c18b0 : decide (t192 ≤ ((rd_T37 l0 x10_1).f1)) = true := decide_eq_true c18
                    clear c18
                    obtain rfl := Option.some.inj H
                    have hcz19_0 : wc.cell? ⟨gb189, 0, none⟩ = some (.int .u64 ((rd_T37 l0 x10_1).f0)) := (blk_cell BK189.out 0).trans rfl
                    have hcz19_1 : wc.cell? ⟨gb189, 1, none⟩ = some (.int .u64 ((rd_T37 l0 x10_1).f1)) := (blk_cell BK189.out 1).trans rfl
                    have hcz19_2 : wc.cell? ⟨gb189, 2, none⟩ = some (.int .u64 ((rd_T37 l0 x10_1).f2)) := (blk_cell BK189.out 2).trans rfl
                    have hcz19_3 : wc.cell? ⟨gb189, 3, none⟩ = some (.bool ((rd_T37 l0 x10_1).f3)) := (blk_cell BK189.out 3).trans rfl
                    have hfz19_0 := blk_frozen BK189.out 0
                    have hfz19_1 := blk_frozen BK189.out 1
                    have hfz19_2 := blk_frozen BK189.out 2
                    have hfz19_3 := blk_frozen BK189.out 3
                    go_wp2_with (first | (go_at_call 28; (with_reducible refine (fix_Add.calls x5_1 a1 t192 _ A17.out).mono ?_); rintro e w' ⟨rfl, ⟨nd, rfl⟩⟩; (try first | exact ⟨rfl, _, World.drewN_drewN _ _ _⟩ | exact ⟨rfl, _, Eq.trans (World.drewN_drewN _ _ _) (congrArg (World.drewN _) (Nat.add_assoc _ _ _))⟩)))
                    repeat (go_quiet (first | (go_at_call 28; (with_reducible refine (fix_Add.calls x5_1 a1 t192 _ A17.out).mono ?_); rintro e w' ⟨rfl, ⟨nd, rfl⟩⟩; (try first | exact ⟨rfl, _, World.drewN_drewN _ _ _⟩ | exact ⟨rfl, _, Eq.trans (World.drewN_drewN _ _ _) (congrArg (World.drewN _) (Nat.add_assoc _ _ _))⟩))); try go_wp2_with (first | (go_at_call 28; (with_reducible refine (fix_Add.calls x5_1 a1 t192 _ A17.out).mono ?_); rintro e w' ⟨rfl, ⟨nd, rfl⟩⟩; (try first | exact ⟨rfl, _, World.drewN_drewN _ _ _⟩ | exact ⟨rfl, _, Eq.trans (World.drewN_drewN _ _ _) (congrArg (World.drewN _) (Nat.add_assoc _ _ _))⟩))))
                    go_ret
                    exact ⟨by first | rfl | (simp [errW_none, errW_some] <;> rfl) | (simp [*, errW_none, errW_some] <;> rfl), by repeat (first | (with_reducible first | exact HB.out | apply below_alloc | apply pw_below_drewN | apply below_drew1 | refine below_set ?_ GE189.out) | exact HB.out)⟩
                  · rw [if_neg c18] at H
                    have c18b0 : decide (t192 ≤ ((rd_T37 l0 x10_1).f1)) = false := decide_eq_false c18
                    clear c18
                    obtain ⟨ji20, hji20⟩ : ∃ j_ : Int, (mn x5_1 ((rd_T37 l0 x10_1).f1)) = j_ := ⟨_, rfl⟩
                    replace H : (ledger_Long.l0 kj5 l0 a1 ji20 l0 (l0.length : Int) (wrap64 (x10_1 + 1))) = some r := by first | (rw [hji20] at H; exact H) | (simp only [hji20] at H ⊢; exact H)
                    (try rw [hji20] at A17)
                    have hji20_ : (if ((rd_T37 l0 x10_1).f1) < x5_1 then ((rd_T37 l0 x10_1).f1) else x5_1) = ji20 := hji20
                    have H' := Aside0.mk H
                    clear H
                    have hcz21_0 : wc.cell? ⟨gb189, 0, none⟩ = some (.int .u64 ((rd_T37 l0 x10_1).f0)) := (blk_cell BK189.out 0).trans rfl
                    have hcz21_1 : wc.cell? ⟨gb189, 1, none⟩ = some (.int .u64 ((rd_T37 l0 x10_1).f1)) := (blk_cell BK189.out 1).trans rfl
                    have hcz21_2 : wc.cell? ⟨gb189, 2, none⟩ = some (.int .u64 ((rd_T37 l0 x10_1).f2)) := (blk_cell BK189.out 2).trans rfl
                    have hcz21_3 : wc.cell? ⟨gb189, 3, none⟩ = some (.bool ((rd_T37 l0 x10_1).f3)) := (blk_cell BK189.out 3).trans rfl
                    have hfz21_0 := blk_frozen BK189.out 0
                    have hfz21_1 := blk_frozen BK189.out 1
                    have hfz21_2 := blk_frozen BK189.out 2
                    have hfz21_3 := blk_frozen BK189.out 3
                    go_wp2_with (first | (go_at_call 28; (with_reducible refine (fix_Add.calls x5_1 a1 t192 _ A17.out).mono ?_); rintro e w' ⟨rfl, ⟨nd, rfl⟩⟩; (try first | exact ⟨rfl, _, World.drewN_drewN _ _ _⟩ | exact ⟨rfl, _, Eq.trans (World.drewN_drewN _ _ _) (congrArg (World.drewN _) (Nat.add_assoc _ _ _))⟩)))
                    repeat (go_quiet (first | (go_at_call 28; (with_reducible refine (fix_Add.calls x5_1 a1 t192 _ A17.out).mono ?_); rintro e w' ⟨rfl, ⟨nd, rfl⟩⟩; (try first | exact ⟨rfl, _, World.drewN_drewN _ _ _⟩ | exact ⟨rfl, _, Eq.trans (World.drewN_drewN _ _ _) (congrArg (World.drewN _) (Nat.add_assoc _ _ _))⟩))); try go_wp2_with (first | (go_at_call 28; (with_reducible refine (fix_Add.calls x5_1 a1 t192 _ A17.out).mono ?_); rintro e w' ⟨rfl, ⟨nd, rfl⟩⟩; (try first | exact ⟨rfl, _, World.drewN_drewN _ _ _⟩ | exact ⟨rfl, _, Eq.trans (World.drewN_drewN _ _ _) (congrArg (World.drewN _) (Nat.add_assoc _ _ _))⟩))))
                    go_roundg kj5
                    case measure => have := HK1.out; have := HJ5.out; omega
                    case rel => exact ⟨(ji20), (wrap64 (x10_1 + 1)), (by first | rfl | (simp; done) | (simp only [← hji20] <;> (first | rfl | (simp; done))) | (simp [*]; done) | (simp only [← hji20]; congr 1; unfold mn mx; omega) | (simp only [← hji20]; congr 1; unfold mn; omega) | (simp only [← hji20]; congr 1; unfold mx; omega)), (by first | rfl | (simp; done) | (simp [*]; done)), H', ⟨by have := HK1.out; have := HJ5.out; omega⟩, ⟨by repeat (first | (with_reducible first | exact HB.out | apply below_alloc | apply pw_below_drewN | apply below_drew1 | refine below_set ?_ GE189.out) | exact HB.out)⟩⟩
          · rw [if_neg c5] at H
            exact absurd H (by simp)
        · rw [if_neg c4] at H
          exact absurd H (by simp)
      · rw [if_neg c3] at H
        have c3b0 : decide (x10_1 < (l0.length : Int)) = false := decide_eq_false c3
        clear c3
        obtain rfl := Option.some.inj H
        go_wp2
        repeat (go_quiet (fail); try go_wp2)
        go_ret
        exact ⟨by first | rfl | (simp [errW_none, errW_some] <;> rfl) | (simp [*, errW_none, errW_some] <;> rfl), by repeat (first | (with_reducible first | exact HB.out | apply below_alloc | apply pw_below_drewN | apply below_drew1) | exact HB.out)⟩

end Go.Proofs.Ytfgmikhlplbmeaa.P
