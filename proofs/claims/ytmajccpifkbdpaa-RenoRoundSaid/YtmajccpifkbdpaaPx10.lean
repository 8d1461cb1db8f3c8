-- Printed for this claim by xprint.py of this session: contracts of this session's own stand in for what the print does not take
import Derived.Test.YtmajccpifkbdpaaPx0
import Derived.Test.YtmajccpifkbdpaaPx3
import Derived.Test.YtmajccpifkbdpaaPx5
namespace Go.Proofs.Ytmajccpifkbdpaa.P
open Go.RowKit Go.Proofs.YtmajccpifkbdpaaW.PrintWords Go.Proofs.YtmajccpifkbdpaaW.PrintLast Go.Proofs.YtmajccpifkbdpaaW.PrintMore
attribute [local go_sem] max2_int min2_int max_two min_two max_three min_three max_four min_four   -- for this text's walks alone
set_option linter.unusedVariables false
set_option linter.unusedSimpArgs false

/-! ### wigwaglaw10_RenoRound: function 7 -/
mutual
def wigwaglaw10_RenoRound.l0 : Nat → List Int → Bool → Int → Int → Int → Int → Int → Int → Int → Option (Bool)
  | 0, _, _, _, _, _, _, _, _, _ => none
  | k + 1, x1, x5, x6, x8, x9, x205000, x205001, x205002, x205003 => if x9 < (x1.length : Int) then (wigwaglaw10_RenoRound.j1 k x1 x5 x6 x8 x9 (decide (x9 < 50)) x205000 x205001 x205002 x205003) else (wigwaglaw10_RenoRound.j1 k x1 x5 x6 x8 x9 false x205000 x205001 x205002 x205003)
def wigwaglaw10_RenoRound.j1 : Nat → List Int → Bool → Int → Int → Int → Bool → Int → Int → Int → Int → Option (Bool)
  | 0, _, _, _, _, _, _, _, _, _, _ => none
  | k + 1, x1, x5, x6, x8, x9, x27, x205000, x205001, x205002, x205003 => if x27 = true then (if 0 ≤ x9 then (if x9 < (x1.length : Int) then ((reno_Ack.f k x205000 x205001 x205002 x205003 (mn (IntKind.u64.wrap (rd x1 x9)) x8) 0 false).bind fun bt206 => (wigwaglaw10_RenoRound.l0 k x1 x5 x6 (IntKind.u64.wrap (x8 - (mn (IntKind.u64.wrap (rd x1 x9)) x8))) (wrap64 (x9 + 1)) bt206.1 bt206.2.1 bt206.2.2.1 bt206.2.2.2)) else (none)) else (none)) else ((reno_Ack.f k x205000 x205001 x205002 x205003 x8 0 false).bind fun bt210 => ((reno_Ack.f k x6 2400 0 0 x6 0 false).bind fun bt214 => (if x5 = true then (if bt210.1 ≤ (IntKind.u64.wrap (x6 + 1200)) then (if bt210.1 ≥ x6 then (if bt214.1 = (IntKind.u64.wrap (x6 + 1200)) then (some (bt214.2.2.2 == 0)) else (some false)) else (some false)) else (some false)) else (some false))))
end
def wigwaglaw10_RenoRound.f (k : Nat) (a0 : Int) (l1 : List Int) : Option (Bool) := (wigwaglaw10_awake.f k).bind fun t203 => (wigwaglaw10_RenoRound.l0 k l1 t203 (IntKind.u64.wrap ((Int.tmod (IntKind.u64.wrap (a0)) 1000000) + 2400)) (IntKind.u64.wrap ((Int.tmod (IntKind.u64.wrap (a0)) 1000000) + 2400)) 0 (IntKind.u64.wrap ((Int.tmod (IntKind.u64.wrap (a0)) 1000000) + 2400)) 2400 0 0)
theorem wigwaglaw10_RenoRound.mono_l : ∀ k, (∀ y0 y1 y2 y3 y4 y5 y6 y7 y8, LeO (wigwaglaw10_RenoRound.l0 k y0 y1 y2 y3 y4 y5 y6 y7 y8) (wigwaglaw10_RenoRound.l0 (k + 1) y0 y1 y2 y3 y4 y5 y6 y7 y8)) ∧ (∀ y0 y1 y2 y3 y4 y5 y6 y7 y8 y9, LeO (wigwaglaw10_RenoRound.j1 k y0 y1 y2 y3 y4 y5 y6 y7 y8 y9) (wigwaglaw10_RenoRound.j1 (k + 1) y0 y1 y2 y3 y4 y5 y6 y7 y8 y9))
  | 0 => ⟨fun _ _ _ _ _ _ _ _ _ r h => by simp [wigwaglaw10_RenoRound.l0] at h, fun _ _ _ _ _ _ _ _ _ _ r h => by simp [wigwaglaw10_RenoRound.j1] at h⟩
  | k + 1 => by
    obtain ⟨ih0, ih1⟩ := wigwaglaw10_RenoRound.mono_l k
    refine ⟨?_, ?_⟩
    · intro y0 y1 y2 y3 y4 y5 y6 y7 y8
      unfold wigwaglaw10_RenoRound.l0
      repeat' first
      | (with_reducible exact ih0 _ _ _ _ _ _ _ _ _)
      | (with_reducible exact ih1 _ _ _ _ _ _ _ _ _ _)
      | (with_reducible exact reno_Ack.mono _ _ _ _ _ _ _ _)
      | (with_reducible exact wigwaglaw10_awake.mono _)
      | (with_reducible exact LeO.refl _)
      | (with_reducible exact LeO.none _)
      | (with_reducible refine LeO.ite ?_ ?_)
      | (with_reducible refine LeO.bind ?_ (fun _ => ?_))
      | exact ih0 _ _ _ _ _ _ _ _ _
      | exact ih1 _ _ _ _ _ _ _ _ _ _
      | exact reno_Ack.mono _ _ _ _ _ _ _ _
      | exact wigwaglaw10_awake.mono _
      | exact LeO.none _
      | refine LeO.ite ?_ ?_
      | refine LeO.bind ?_ (fun _ => ?_)
    · intro y0 y1 y2 y3 y4 y5 y6 y7 y8 y9
      unfold wigwaglaw10_RenoRound.j1
      repeat' first
      | (with_reducible exact ih0 _ _ _ _ _ _ _ _ _)
      | (with_reducible exact ih1 _ _ _ _ _ _ _ _ _ _)
      | (with_reducible exact reno_Ack.mono _ _ _ _ _ _ _ _)
      | (with_reducible exact wigwaglaw10_awake.mono _)
      | (with_reducible exact LeO.refl _)
      | (with_reducible exact LeO.none _)
      | (with_reducible refine LeO.ite ?_ ?_)
      | (with_reducible refine LeO.bind ?_ (fun _ => ?_))
      | exact ih0 _ _ _ _ _ _ _ _ _
      | exact ih1 _ _ _ _ _ _ _ _ _ _
      | exact reno_Ack.mono _ _ _ _ _ _ _ _
      | exact wigwaglaw10_awake.mono _
      | exact LeO.none _
      | refine LeO.ite ?_ ?_
      | refine LeO.bind ?_ (fun _ => ?_)
theorem wigwaglaw10_RenoRound.mono : ∀ a0 a1 k, LeO (wigwaglaw10_RenoRound.f k a0 a1) (wigwaglaw10_RenoRound.f (k + 1) a0 a1) := by
  intro a0 a1 k
  obtain ⟨ih0, ih1⟩ := wigwaglaw10_RenoRound.mono_l k
  unfold wigwaglaw10_RenoRound.f
  repeat' first
      | (with_reducible exact ih0 _ _ _ _ _ _ _ _ _)
      | (with_reducible exact ih1 _ _ _ _ _ _ _ _ _ _)
      | (with_reducible exact reno_Ack.mono _ _ _ _ _ _ _ _)
      | (with_reducible exact wigwaglaw10_awake.mono _)
      | (with_reducible exact LeO.refl _)
      | (with_reducible exact LeO.none _)
      | (with_reducible refine LeO.ite ?_ ?_)
      | (with_reducible refine LeO.bind ?_ (fun _ => ?_))
      | exact ih0 _ _ _ _ _ _ _ _ _
      | exact ih1 _ _ _ _ _ _ _ _ _ _
      | exact reno_Ack.mono _ _ _ _ _ _ _ _
      | exact wigwaglaw10_awake.mono _
      | exact LeO.none _
      | refine LeO.ite ?_ ?_
      | refine LeO.bind ?_ (fun _ => ?_)
set_option maxHeartbeats 8000000 in
set_option maxRecDepth 100000 in
theorem wigwaglaw10_RenoRound.calls (k : Nat) (a0 : Int) (A1 : Option Addr) (c1 : Nat) (l1 : List Int) (r : Bool) (w : World) (hr1 : Kd.C (Kd.int .u16) w A1 l1.length l1) (hc1 : l1.length ≤ c1) (h : wigwaglaw10_RenoRound.f k a0 l1 = some r) :
    Calls Try.prog 7 #[.int .u32 a0, .slice A1 l1.length c1] w fun e w' => e = .returned (.bool r) ∧ Below w.heap.size w w' := by
  have hu25 := Try.underlying25
  have HR1 := Aside0.mk hr1
  have HC1 := Aside0.mk hc1
  clear hr1 hc1
  have HB := Aside0.mk (Below.refl w.heap.size w)
  have H : ((wigwaglaw10_awake.f k).bind fun t203 => (wigwaglaw10_RenoRound.l0 k l1 t203 (IntKind.u64.wrap ((Int.tmod (IntKind.u64.wrap (a0)) 1000000) + 2400)) (IntKind.u64.wrap ((Int.tmod (IntKind.u64.wrap (a0)) 1000000) + 2400)) 0 (IntKind.u64.wrap ((Int.tmod (IntKind.u64.wrap (a0)) 1000000) + 2400)) 2400 0 0)) = some r := h
  clear h
  replace H := Option.bind_eq_some_iff.mp H
  obtain ⟨t203, A30, H⟩ := H
  replace H : (wigwaglaw10_RenoRound.l0 k l1 t203 (IntKind.u64.wrap ((Int.tmod (IntKind.u64.wrap (a0)) 1000000) + 2400)) (IntKind.u64.wrap ((Int.tmod (IntKind.u64.wrap (a0)) 1000000) + 2400)) 0 (IntKind.u64.wrap ((Int.tmod (IntKind.u64.wrap (a0)) 1000000) + 2400)) 2400 0 0) = some r := H
  have A3 := Aside0.mk A30
  clear A30
  have H' := Aside0.mk H
  clear H
  go_enter Try.func7, Try.ntmps7
  go_wp2_with (first | ((with_reducible refine gate_callee (f := 10) rfl ?_); refine goesL_ (some 12) rfl rfl Try.func10 (by kernel_rfl) rfl #[] rfl (by (try simp only [List.map_toArray, List.map_cons, List.map_nil]); first | done | rfl | (simp only [List.length_drop, List.length_take]; rfl)) ?_; (with_reducible refine (wigwaglaw10_awake.calls k  t203 _ A3.out).mono ?_); rintro e w4 ⟨rfl, hb⟩; refine ⟨_, rfl, ?_⟩; have n0_ := Aside0.mk (below_step (by repeat (first | (with_reducible first | exact HB.out | apply below_alloc | apply pw_below_drewN | apply below_drew1) | exact HB.out)) hb); clear HB; have HB := n0_; clear n0_; (try clear hb); (try clear hb2); (try clear hk); (try clear hi)) | ((with_reducible refine gate_dst (N := 7) rfl ?_); refine box_event ?hg (N := 7) ?hd (cs := #[.int .u64 0, .int .u64 0, .int .u64 0, .int .u64 0]) (t := 25) ?hr ?_; (case hd => rfl); (case hg => rfl); (case hr => first | (go_simp; done) | (go_simp; rfl)); intro gb204 hg w5 hbox hb; have n0_ := Aside0.mk (below_step (by repeat (first | (with_reducible first | exact HB.out | apply below_alloc | apply pw_below_drewN | apply below_drew1) | exact HB.out)) hb); have n1_ := Aside0.mk (hbox); have n2_ := Aside0.mk ((by rw [hg]; exact (below_size (by repeat (first | (with_reducible first | exact HB.out | apply below_alloc | apply pw_below_drewN | apply below_drew1) | exact HB.out))) : w.heap.size ≤ gb204)); have n3_ := Aside0.mk ((by rw [hg]; exact (below_size (by repeat (first | (with_reducible first | exact HB.out | apply below_alloc | apply pw_below_drewN | apply below_drew1) | exact HB.out))) : w.heap.size ≤ gb204)); clear HB; have HB := n0_; have BK204 := n1_; have GW204 := n2_; have GE204 := n3_; clear n0_ n1_ n2_ n3_; clear hb hbox hg; have hcz6_0 : w5.cell? ⟨gb204, 0, none⟩ = some (.int .u64 0) := (blk_cell BK204.out 0).trans rfl; have hcz6_1 : w5.cell? ⟨gb204, 1, none⟩ = some (.int .u64 0) := (blk_cell BK204.out 1).trans rfl; have hcz6_2 : w5.cell? ⟨gb204, 2, none⟩ = some (.int .u64 0) := (blk_cell BK204.out 2).trans rfl; have hcz6_3 : w5.cell? ⟨gb204, 3, none⟩ = some (.int .u64 0) := (blk_cell BK204.out 3).trans rfl; have hfz6_0 := blk_frozen BK204.out 0; have hfz6_1 := blk_frozen BK204.out 1; have hfz6_2 := blk_frozen BK204.out 2; have hfz6_3 := blk_frozen BK204.out 3))
  go_loopg [8, 9] k (fun kq v8 v9 w' => ∃ (x8_1 : Int) (x9_1 : Int) (x205000_1 : Int) (x205001_1 : Int) (x205002_1 : Int) (x205003_1 : Int), v8 = .int .u64 x8_1 ∧ v9 = .int .i64 x9_1 ∧ Aside0 (wigwaglaw10_RenoRound.l0 kq l1 t203 (IntKind.u64.wrap ((Int.tmod (IntKind.u64.wrap (a0)) 1000000) + 2400)) x8_1 x9_1 x205000_1 x205001_1 x205002_1 x205003_1 = some r) ∧ Aside0 (kq ≤ k) ∧ Aside0 (w'.heap[gb204]? = some (.cells #[.int .u64 x205000_1, .int .u64 x205001_1, .int .u64 x205002_1, .int .u64 x205003_1] 25 (0, 0))) ∧ Aside0 (Below w.heap.size w w'))
  case atStart => exact ⟨(IntKind.u64.wrap ((Int.tmod (IntKind.u64.wrap (a0)) 1000000) + 2400)), (0), (IntKind.u64.wrap ((Int.tmod (IntKind.u64.wrap (a0)) 1000000) + 2400)), (2400), (0), (0), (by first | rfl | (simp; done) | (simp [*]; done)), (by first | rfl | (simp; done) | (simp [*]; done)), H', ⟨Nat.le_refl _⟩, ⟨by (with_reducible repeat (first | refine blk_drewN ?_ _ | refine blk_drew ?_ | refine blk_alloc ?_ _)); refine blk_put (cs := #[.int .u64 (IntKind.u64.wrap ((Int.tmod (IntKind.u64.wrap (a0)) 1000000) + 2400)), .int .u64 2400, .int .u64 0, .int .u64 0]) ?_ 3 _ rfl; (with_reducible repeat (first | refine blk_drewN ?_ _ | refine blk_drew ?_ | refine blk_alloc ?_ _)); refine blk_put (cs := #[.int .u64 (IntKind.u64.wrap ((Int.tmod (IntKind.u64.wrap (a0)) 1000000) + 2400)), .int .u64 2400, .int .u64 0, .int .u64 0]) ?_ 2 _ rfl; (with_reducible repeat (first | refine blk_drewN ?_ _ | refine blk_drew ?_ | refine blk_alloc ?_ _)); refine blk_put (cs := #[.int .u64 (IntKind.u64.wrap ((Int.tmod (IntKind.u64.wrap (a0)) 1000000) + 2400)), .int .u64 0, .int .u64 0, .int .u64 0]) ?_ 1 _ rfl; (with_reducible repeat (first | refine blk_drewN ?_ _ | refine blk_drew ?_ | refine blk_alloc ?_ _)); refine blk_put (cs := #[.int .u64 0, .int .u64 0, .int .u64 0, .int .u64 0]) ?_ 0 _ rfl; (with_reducible repeat (first | refine blk_drewN ?_ _ | refine blk_drew ?_ | refine blk_alloc ?_ _)); exact BK204.out⟩, ⟨by repeat (first | (with_reducible first | exact HB.out | apply below_alloc | apply pw_below_drewN | apply below_drew1 | refine below_set ?_ GE204.out) | exact HB.out)⟩⟩
  case round =>
    clear H'
    try clear c1
    try clear p2
    try clear hcz6_0
    try clear hcz6_1
    try clear hcz6_2
    try clear hcz6_3
    try clear hfz6_0
    try clear hfz6_1
    try clear hfz6_2
    try clear hfz6_3
    obtain ⟨x8_1, x9_1, x205000_1, x205001_1, x205002_1, x205003_1, rfl, rfl, HA, HK1, BK204, HB⟩ := hrel
    cases gk with
    | zero => exact absurd HA.out (by simp [wigwaglaw10_RenoRound.l0])
    | succ k1 =>
      have H := HA.out
      clear HA
      simp only [wigwaglaw10_RenoRound.l0] at H
      have HC7 := Aside0.mk H
      clear H
      go_upto_region 6 with (fail)
      go_cut [27] (fun v27 wc => ∃ (kq : Nat) (x27_6 : Bool), v27 = .bool x27_6 ∧ Aside0 (wigwaglaw10_RenoRound.j1 kq l1 t203 (IntKind.u64.wrap ((Int.tmod (IntKind.u64.wrap (a0)) 1000000) + 2400)) x8_1 x9_1 x27_6 x205000_1 x205001_1 x205002_1 x205003_1 = some r) ∧ Aside0 (kq ≤ k1) ∧ Aside0 (wc.heap[gb204]? = some (.cells #[.int .u64 x205000_1, .int .u64 x205001_1, .int .u64 x205002_1, .int .u64 x205003_1] 25 (0, 0))) ∧ Aside0 (Below w.heap.size w wc))
      case first =>
        have H := HC7.out
        clear HC7
        by_cases c8 : x9_1 < (l1.length : Int)
        · rw [if_pos c8] at H
          have c8b0 : decide (x9_1 < (l1.length : Int)) = true := decide_eq_true c8
          clear c8
          (first | rw [c8b0] | (simp only [i64_w, i32_w]; rw [c8b0]) | skip)
          have H' := Aside0.mk H
          clear H
          go_wp2
          go_meet
          case rel => exact ⟨_, (decide (x9_1 < 50)), (by first | rfl | (simp; done) | (simp [*]; done)), H', ⟨by have := HK1.out; first | omega | exact Nat.le_refl _⟩, ⟨by (with_reducible repeat (first | refine blk_drewN ?_ _ | refine blk_drew ?_ | refine blk_alloc ?_ _)); exact BK204.out⟩, ⟨by repeat (first | (with_reducible first | exact HB.out | apply below_alloc | apply pw_below_drewN | apply below_drew1 | refine below_set ?_ GE204.out) | exact HB.out)⟩⟩
        · rw [if_neg c8] at H
          have c8b0 : decide (x9_1 < (l1.length : Int)) = false := decide_eq_false c8
          clear c8
          (first | rw [c8b0] | (simp only [i64_w, i32_w]; rw [c8b0]) | skip)
          have H' := Aside0.mk H
          clear H
          go_wp2
          go_meet
          case rel => exact ⟨_, (false), (by first | rfl | (simp; done) | (simp [*]; done)), H', ⟨by have := HK1.out; first | omega | exact Nat.le_refl _⟩, ⟨by (with_reducible repeat (first | refine blk_drewN ?_ _ | refine blk_drew ?_ | refine blk_alloc ?_ _)); exact BK204.out⟩, ⟨by repeat (first | (with_reducible first | exact HB.out | apply below_alloc | apply pw_below_drewN | apply below_drew1 | refine below_set ?_ GE204.out) | exact HB.out)⟩⟩
      case rest =>
        clear HC7
        try clear c1
        try clear p2
        try clear c7
        try clear c8
        try clear c8b0
        try clear hcz6_0
        try clear hcz6_1
        try clear hcz6_2
        try clear hcz6_3
        try clear hfz6_0
        try clear hfz6_1
        try clear hfz6_2
        try clear hfz6_3
        try clear p2
        obtain ⟨kq, x27_6, rfl, HA, HJ6, BK204, HB⟩ := hcut
        cases kq with
        | zero => exact absurd HA.out (by simp [wigwaglaw10_RenoRound.j1])
        | succ kj6 =>
          have H := HA.out
          clear HA
          simp only [wigwaglaw10_RenoRound.j1] at H
          by_cases c9 : x27_6 = true
          · subst c9
            have H1 : (if 0 ≤ x9_1 then (if x9_1 < (l1.length : Int) then ((reno_Ack.f kj6 x205000_1 x205001_1 x205002_1 x205003_1 (mn (IntKind.u64.wrap (rd l1 x9_1)) x8_1) 0 false).bind fun bt206 => (wigwaglaw10_RenoRound.l0 kj6 l1 t203 (IntKind.u64.wrap ((Int.tmod (IntKind.u64.wrap (a0)) 1000000) + 2400)) (IntKind.u64.wrap (x8_1 - (mn (IntKind.u64.wrap (rd l1 x9_1)) x8_1))) (wrap64 (x9_1 + 1)) bt206.1 bt206.2.1 bt206.2.2.1 bt206.2.2.2)) else (none)) else (none)) = some r := by rw [if_pos rfl] at H; exact H
            clear H
            have H := H1
            clear H1
            by_cases c10 : 0 ≤ x9_1
            · rw [if_pos c10] at H
              have c10b0 : decide (0 ≤ x9_1) = true := decide_eq_true c10
              clear c10
              by_cases c11 : x9_1 < (l1.length : Int)
              · rw [if_pos c11] at H
                have c11b0 : decide (x9_1 < (l1.length : Int)) = true := decide_eq_true c11
                clear c11
                obtain ⟨ji12, hji12⟩ : ∃ j_ : Int, (mn (IntKind.u64.wrap (rd l1 x9_1)) x8_1) = j_ := ⟨_, rfl⟩
                replace H : ((reno_Ack.f kj6 x205000_1 x205001_1 x205002_1 x205003_1 (ji12) 0 false).bind fun bt206 => (wigwaglaw10_RenoRound.l0 kj6 l1 t203 (IntKind.u64.wrap ((Int.tmod (IntKind.u64.wrap (a0)) 1000000) + 2400)) (IntKind.u64.wrap (x8_1 - (ji12))) (wrap64 (x9_1 + 1)) bt206.1 bt206.2.1 bt206.2.2.1 bt206.2.2.2)) = some r := by first | (rw [hji12] at H; exact H) | (simp only [hji12] at H ⊢; exact H)
                have hji12_ : (if x8_1 < (IntKind.u64.wrap (rd l1 x9_1)) then x8_1 else (IntKind.u64.wrap (rd l1 x9_1))) = ji12 := hji12
                replace H := Option.bind_eq_some_iff.mp H
                obtain ⟨⟨t206, t207, t208, t209⟩, A130, H⟩ := H
                replace H : (wigwaglaw10_RenoRound.l0 kj6 l1 t203 (IntKind.u64.wrap ((Int.tmod (IntKind.u64.wrap (a0)) 1000000) + 2400)) (IntKind.u64.wrap (x8_1 - (ji12))) (wrap64 (x9_1 + 1)) t206 t207 t208 t209) = some r := H
                have A13 := Aside0.mk A130
                clear A130
                have H' := Aside0.mk H
                clear H
                have p205 : 0 ≤ (x9_1 : Int) := of_decide_eq_true (by first | (with_reducible assumption) | assumption)
                have q205 : x9_1 < (l1.length : Int) := of_decide_eq_true (by first | (with_reducible assumption) | assumption)
                obtain ⟨ad205, e205, hx205_0⟩ := Kd.at_int HR1.out x9_1 p205 q205
                cases e205
                replace hx205_0 := (HB.out.cell (World.block_lt_of_cell? w _ hx205_0)).trans hx205_0
                replace p205 := eq_true p205
                replace q205 := eq_true q205
                have hcz14_0 : wc.cell? ⟨gb204, 0, none⟩ = some (.int .u64 x205000_1) := (blk_cell BK204.out 0).trans rfl
                have hcz14_1 : wc.cell? ⟨gb204, 1, none⟩ = some (.int .u64 x205001_1) := (blk_cell BK204.out 1).trans rfl
                have hcz14_2 : wc.cell? ⟨gb204, 2, none⟩ = some (.int .u64 x205002_1) := (blk_cell BK204.out 2).trans rfl
                have hcz14_3 : wc.cell? ⟨gb204, 3, none⟩ = some (.int .u64 x205003_1) := (blk_cell BK204.out 3).trans rfl
                have hfz14_0 := blk_frozen BK204.out 0
                have hfz14_1 := blk_frozen BK204.out 1
                have hfz14_2 := blk_frozen BK204.out 2
                have hfz14_3 := blk_frozen BK204.out 3
                go_wp2_with (first | ((with_reducible refine gate_callee (f := 11) rfl ?_); refine goesL_ (some 39) rfl rfl Try.func11 (by kernel_rfl) rfl #[.agg #[.int .u64 x205000_1, .int .u64 x205001_1, .int .u64 x205002_1, .int .u64 x205003_1], .int .u64 ji12, .int .u64 0, .bool false] rfl (by (try simp only [List.map_toArray, List.map_cons, List.map_nil]); first | done | (simp only [hji12]; rfl) | rfl | (simp only [List.length_drop, List.length_take]; rfl)) ?_; (with_reducible refine (reno_Ack.calls kj6 x205000_1 x205001_1 x205002_1 x205003_1 ji12 0 false t206 t207 t208 t209 _ A13.out).mono ?_); rintro e w15 ⟨rfl, hb⟩; refine ⟨_, rfl, ?_⟩; have n0_ := Aside0.mk (blk_below (g := gb204) (o := .cells #[.int .u64 x205000_1, .int .u64 x205001_1, .int .u64 x205002_1, .int .u64 x205003_1] 25 (0, 0)) (by (with_reducible repeat (first | refine blk_drewN ?_ _ | refine blk_drew ?_ | refine blk_alloc ?_ _)); exact BK204.out) hb); have n1_ := Aside0.mk (below_step (by repeat (first | (with_reducible first | exact HB.out | apply below_alloc | apply pw_below_drewN | apply below_drew1 | refine below_set ?_ GE204.out) | exact HB.out)) hb); clear BK204; clear HB; have BK204 := n0_; have HB := n1_; clear n0_ n1_; (try clear hb); (try clear hb2); (try clear hk); (try clear hi); have hcz16_0 : w15.cell? ⟨gb204, 0, none⟩ = some (.int .u64 x205000_1) := (blk_cell BK204.out 0).trans rfl; have hcz16_1 : w15.cell? ⟨gb204, 1, none⟩ = some (.int .u64 x205001_1) := (blk_cell BK204.out 1).trans rfl; have hcz16_2 : w15.cell? ⟨gb204, 2, none⟩ = some (.int .u64 x205002_1) := (blk_cell BK204.out 2).trans rfl; have hcz16_3 : w15.cell? ⟨gb204, 3, none⟩ = some (.int .u64 x205003_1) := (blk_cell BK204.out 3).trans rfl; have hfz16_0 := blk_frozen BK204.out 0; have hfz16_1 := blk_frozen BK204.out 1; have hfz16_2 := blk_frozen BK204.out 2; have hfz16_3 := blk_frozen BK204.out 3))
                go_roundg kj6
                case measure => have := HK1.out; have := HJ6.out; omega
                case rel => exact ⟨(IntKind.u64.wrap (x8_1 - (ji12))), (wrap64 (x9_1 + 1)), (t206), (t207), (t208), (t209), (by first | rfl | (simp; done) | (simp only [← hji12] <;> (first | rfl | (simp; done))) | (simp [*]; done) | (simp only [← hji12]; congr 1; unfold mn mx; omega) | (simp only [← hji12]; congr 1; unfold mn; omega) | (simp only [← hji12]; congr 1; unfold mx; omega)), (by first | rfl | (simp; done) | (simp [*]; done)), H', ⟨by have := HK1.out; have := HJ6.out; omega⟩, ⟨by (with_reducible repeat (first | refine blk_drewN ?_ _ | refine blk_drew ?_ | refine blk_alloc ?_ _)); refine blk_put (cs := #[.int .u64 t206, .int .u64 t207, .int .u64 t208, .int .u64 x205003_1]) ?_ 3 _ rfl; (with_reducible repeat (first | refine blk_drewN ?_ _ | refine blk_drew ?_ | refine blk_alloc ?_ _)); refine blk_put (cs := #[.int .u64 t206, .int .u64 t207, .int .u64 x205002_1, .int .u64 x205003_1]) ?_ 2 _ rfl; (with_reducible repeat (first | refine blk_drewN ?_ _ | refine blk_drew ?_ | refine blk_alloc ?_ _)); refine blk_put (cs := #[.int .u64 t206, .int .u64 x205001_1, .int .u64 x205002_1, .int .u64 x205003_1]) ?_ 1 _ rfl; (with_reducible repeat (first | refine blk_drewN ?_ _ | refine blk_drew ?_ | refine blk_alloc ?_ _)); refine blk_put (cs := #[.int .u64 x205000_1, .int .u64 x205001_1, .int .u64 x205002_1, .int .u64 x205003_1]) ?_ 0 _ rfl; (with_reducible repeat (first | refine blk_drewN ?_ _ | refine blk_drew ?_ | refine blk_alloc ?_ _)); exact BK204.out⟩, ⟨by repeat (first | (with_reducible first | exact HB.out | apply below_alloc | apply pw_below_drewN | apply below_drew1 | refine below_set ?_ GE204.out) | exact HB.out)⟩⟩
              · rw [if_neg c11] at H
                exact absurd H (by simp)
            · rw [if_neg c10] at H
              exact absurd H (by simp)
          · replace c9 := Bool.eq_false_iff.mpr c9
            subst c9
            have H1 : ((reno_Ack.f kj6 x205000_1 x205001_1 x205002_1 x205003_1 x8_1 0 false).bind fun bt210 => ((reno_Ack.f kj6 (IntKind.u64.wrap ((Int.tmod (IntKind.u64.wrap (a0)) 1000000) + 2400)) 2400 0 0 (IntKind.u64.wrap ((Int.tmod (IntKind.u64.wrap (a0)) 1000000) + 2400)) 0 false).bind fun bt214 => (if t203 = true then (if bt210.1 ≤ (IntKind.u64.wrap ((IntKind.u64.wrap ((Int.tmod (IntKind.u64.wrap (a0)) 1000000) + 2400)) + 1200)) then (if bt210.1 ≥ (IntKind.u64.wrap ((Int.tmod (IntKind.u64.wrap (a0)) 1000000) + 2400)) then (if bt214.1 = (IntKind.u64.wrap ((IntKind.u64.wrap ((Int.tmod (IntKind.u64.wrap (a0)) 1000000) + 2400)) + 1200)) then (some (bt214.2.2.2 == 0)) else (some false)) else (some false)) else (some false)) else (some false)))) = some r := by rw [if_neg (show ¬ (false = true) by decide)] at H; exact H
            clear H
            have H := H1
            clear H1
            replace H := Option.bind_eq_some_iff.mp H
            obtain ⟨⟨t210, t211, t212, t213⟩, A170, H⟩ := H
            replace H : ((reno_Ack.f kj6 (IntKind.u64.wrap ((Int.tmod (IntKind.u64.wrap (a0)) 1000000) + 2400)) 2400 0 0 (IntKind.u64.wrap ((Int.tmod (IntKind.u64.wrap (a0)) 1000000) + 2400)) 0 false).bind fun bt214 => (if t203 = true then (if t210 ≤ (IntKind.u64.wrap ((IntKind.u64.wrap ((Int.tmod (IntKind.u64.wrap (a0)) 1000000) + 2400)) + 1200)) then (if t210 ≥ (IntKind.u64.wrap ((Int.tmod (IntKind.u64.wrap (a0)) 1000000) + 2400)) then (if bt214.1 = (IntKind.u64.wrap ((IntKind.u64.wrap ((Int.tmod (IntKind.u64.wrap (a0)) 1000000) + 2400)) + 1200)) then (some (bt214.2.2.2 == 0)) else (some false)) else (some false)) else (some false)) else (some false))) = some r := H
            have A17 := Aside0.mk A170
            clear A170
            replace H := Option.bind_eq_some_iff.mp H
            obtain ⟨⟨t214, t215, t216, t217⟩, A180, H⟩ := H
            replace H : (if t203 = true then (if t210 ≤ (IntKind.u64.wrap ((IntKind.u64.wrap ((Int.tmod (IntKind.u64.wrap (a0)) 1000000) + 2400)) + 1200)) then (if t210 ≥ (IntKind.u64.wrap ((Int.tmod (IntKind.u64.wrap (a0)) 1000000) + 2400)) then (if t214 = (IntKind.u64.wrap ((IntKind.u64.wrap ((Int.tmod (IntKind.u64.wrap (a0)) 1000000) + 2400)) + 1200)) then (some (t217 == 0)) else (some false)) else (some false)) else (some false)) else (some false)) = some r := H
            have A18 := Aside0.mk A180
            clear A180
            have HS19 := Aside0.mk H
            clear H
            have hcz20_0 : wc.cell? ⟨gb204, 0, none⟩ = some (.int .u64 x205000_1) := (blk_cell BK204.out 0).trans rfl
            have hcz20_1 : wc.cell? ⟨gb204, 1, none⟩ = some (.int .u64 x205001_1) := (blk_cell BK204.out 1).trans rfl
            have hcz20_2 : wc.cell? ⟨gb204, 2, none⟩ = some (.int .u64 x205002_1) := (blk_cell BK204.out 2).trans rfl
            have hcz20_3 : wc.cell? ⟨gb204, 3, none⟩ = some (.int .u64 x205003_1) := (blk_cell BK204.out 3).trans rfl
            have hfz20_0 := blk_frozen BK204.out 0
            have hfz20_1 := blk_frozen BK204.out 1
            have hfz20_2 := blk_frozen BK204.out 2
            have hfz20_3 := blk_frozen BK204.out 3
            go_upto_region 13 with (first | ((with_reducible refine gate_callee (f := 11) rfl ?_); refine goesL_ (some 45) rfl rfl Try.func11 (by kernel_rfl) rfl #[.agg #[.int .u64 x205000_1, .int .u64 x205001_1, .int .u64 x205002_1, .int .u64 x205003_1], .int .u64 x8_1, .int .u64 0, .bool false] rfl (by (try simp only [List.map_toArray, List.map_cons, List.map_nil]); first | done | rfl | (simp only [List.length_drop, List.length_take]; rfl)) ?_; (with_reducible refine (reno_Ack.calls kj6 x205000_1 x205001_1 x205002_1 x205003_1 x8_1 0 false t210 t211 t212 t213 _ A17.out).mono ?_); rintro e w21 ⟨rfl, hb⟩; refine ⟨_, rfl, ?_⟩; have n0_ := Aside0.mk (blk_below (g := gb204) (o := .cells #[.int .u64 x205000_1, .int .u64 x205001_1, .int .u64 x205002_1, .int .u64 x205003_1] 25 (0, 0)) (by (with_reducible repeat (first | refine blk_drewN ?_ _ | refine blk_drew ?_ | refine blk_alloc ?_ _)); exact BK204.out) hb); have n1_ := Aside0.mk (below_step (by repeat (first | (with_reducible first | exact HB.out | apply below_alloc | apply pw_below_drewN | apply below_drew1 | refine below_set ?_ GE204.out) | exact HB.out)) hb); clear BK204; clear HB; have BK204 := n0_; have HB := n1_; clear n0_ n1_; (try clear hb); (try clear hb2); (try clear hk); (try clear hi); have hcz22_0 : w21.cell? ⟨gb204, 0, none⟩ = some (.int .u64 x205000_1) := (blk_cell BK204.out 0).trans rfl; have hcz22_1 : w21.cell? ⟨gb204, 1, none⟩ = some (.int .u64 x205001_1) := (blk_cell BK204.out 1).trans rfl; have hcz22_2 : w21.cell? ⟨gb204, 2, none⟩ = some (.int .u64 x205002_1) := (blk_cell BK204.out 2).trans rfl; have hcz22_3 : w21.cell? ⟨gb204, 3, none⟩ = some (.int .u64 x205003_1) := (blk_cell BK204.out 3).trans rfl; have hfz22_0 := blk_frozen BK204.out 0; have hfz22_1 := blk_frozen BK204.out 1; have hfz22_2 := blk_frozen BK204.out 2; have hfz22_3 := blk_frozen BK204.out 3) | ((with_reducible refine gate_callee (f := 11) rfl ?_); refine goesL_ (some 49) rfl rfl Try.func11 (by kernel_rfl) rfl #[.agg #[.int .u64 (IntKind.u64.wrap ((Int.tmod (IntKind.u64.wrap (a0)) 1000000) + 2400)), .int .u64 2400, .int .u64 0, .int .u64 0], .int .u64 (IntKind.u64.wrap ((Int.tmod (IntKind.u64.wrap (a0)) 1000000) + 2400)), .int .u64 0, .bool false] rfl (by (try simp only [List.map_toArray, List.map_cons, List.map_nil]); first | done | rfl | (simp only [List.length_drop, List.length_take]; rfl)) ?_; (with_reducible refine (reno_Ack.calls kj6 (IntKind.u64.wrap ((Int.tmod (IntKind.u64.wrap (a0)) 1000000) + 2400)) 2400 0 0 (IntKind.u64.wrap ((Int.tmod (IntKind.u64.wrap (a0)) 1000000) + 2400)) 0 false t214 t215 t216 t217 _ A18.out).mono ?_); rintro e w23 ⟨rfl, hb⟩; refine ⟨_, rfl, ?_⟩; have n0_ := Aside0.mk (blk_below (g := gb204) (o := .cells #[.int .u64 t210, .int .u64 t211, .int .u64 t212, .int .u64 t213] 25 (0, 0)) (by (with_reducible repeat (first | refine blk_drewN ?_ _ | refine blk_drew ?_ | refine blk_alloc ?_ _)); refine blk_put (cs := #[.int .u64 t210, .int .u64 t211, .int .u64 t212, .int .u64 x205003_1]) ?_ 3 _ rfl; (with_reducible repeat (first | refine blk_drewN ?_ _ | refine blk_drew ?_ | refine blk_alloc ?_ _)); refine blk_put (cs := #[.int .u64 t210, .int .u64 t211, .int .u64 x205002_1, .int .u64 x205003_1]) ?_ 2 _ rfl; (with_reducible repeat (first | refine blk_drewN ?_ _ | refine blk_drew ?_ | refine blk_alloc ?_ _)); refine blk_put (cs := #[.int .u64 t210, .int .u64 x205001_1, .int .u64 x205002_1, .int .u64 x205003_1]) ?_ 1 _ rfl; (with_reducible repeat (first | refine blk_drewN ?_ _ | refine blk_drew ?_ | refine blk_alloc ?_ _)); refine blk_put (cs := #[.int .u64 x205000_1, .int .u64 x205001_1, .int .u64 x205002_1, .int .u64 x205003_1]) ?_ 0 _ rfl; (with_reducible repeat (first | refine blk_drewN ?_ _ | refine blk_drew ?_ | refine blk_alloc ?_ _)); exact BK204.out) hb); have n1_ := Aside0.mk (below_step (by repeat (first | (with_reducible first | exact HB.out | apply below_alloc | apply pw_below_drewN | apply below_drew1 | refine below_set ?_ GE204.out) | exact HB.out)) hb); clear BK204; clear HB; have BK204 := n0_; have HB := n1_; clear n0_ n1_; (try clear hb); (try clear hb2); (try clear hk); (try clear hi)) | ((with_reducible refine gate_dst (N := 11) rfl ?_); refine box_event ?hg (N := 11) ?hd (cs := #[.int .u64 0, .int .u64 0, .int .u64 0, .int .u64 0]) (t := 25) ?hr ?_; (case hd => rfl); (case hg => rfl); (case hr => first | (go_simp; done) | (go_simp; rfl)); intro gb218 hg w24 hbox hb; have n0_ := Aside0.mk (blk_below (g := gb204) (o := .cells #[.int .u64 t210, .int .u64 t211, .int .u64 t212, .int .u64 t213] 25 (0, 0)) (by (with_reducible repeat (first | refine blk_drewN ?_ _ | refine blk_drew ?_ | refine blk_alloc ?_ _)); exact BK204.out) hb); have n1_ := Aside0.mk (below_step (by repeat (first | (with_reducible first | exact HB.out | apply below_alloc | apply pw_below_drewN | apply below_drew1 | refine below_set ?_ GE204.out) | exact HB.out)) hb); have n2_ := Aside0.mk (hbox); have n3_ := Aside0.mk ((by rw [hg]; exact (below_size (by repeat (first | (with_reducible first | exact HB.out | apply below_alloc | apply pw_below_drewN | apply below_drew1 | refine below_set ?_ GE204.out) | exact HB.out))) : w.heap.size ≤ gb218)); have n4_ := Aside0.mk ((by rw [hg]; exact (below_size (by repeat (first | (with_reducible first | exact HB.out | apply below_alloc | apply pw_below_drewN | apply below_drew1 | refine below_set ?_ GE204.out) | exact HB.out))) : w.heap.size ≤ gb218)); have n5_ := Aside0.mk ((by rw [hg]; exact Nat.ne_of_lt (blk_lt (g := gb204) (o := .cells #[.int .u64 t210, .int .u64 t211, .int .u64 t212, .int .u64 t213] 25 (0, 0)) (by (with_reducible repeat (first | refine blk_drewN ?_ _ | refine blk_drew ?_ | refine blk_alloc ?_ _)); exact BK204.out)) : gb204 ≠ gb218)); have n6_ := Aside0.mk ((by rw [hg]; exact Nat.ne_of_gt (blk_lt (g := gb204) (o := .cells #[.int .u64 t210, .int .u64 t211, .int .u64 t212, .int .u64 t213] 25 (0, 0)) (by (with_reducible repeat (first | refine blk_drewN ?_ _ | refine blk_drew ?_ | refine blk_alloc ?_ _)); exact BK204.out)) : gb218 ≠ gb204)); clear BK204; clear HB; have BK204 := n0_; have HB := n1_; have BK218 := n2_; have GW218 := n3_; have GE218 := n4_; have NB204_218 := n5_; have NB218_204 := n6_; clear n0_ n1_ n2_ n3_ n4_ n5_ n6_; clear hb hbox hg; have hnb25 := NB218_204.out; have hnc25 := NB204_218.out; have hcz26_0 : w24.cell? ⟨gb218, 0, none⟩ = some (.int .u64 0) := (blk_cell BK218.out 0).trans rfl; have hcz26_1 : w24.cell? ⟨gb218, 1, none⟩ = some (.int .u64 0) := (blk_cell BK218.out 1).trans rfl; have hcz26_2 : w24.cell? ⟨gb218, 2, none⟩ = some (.int .u64 0) := (blk_cell BK218.out 2).trans rfl; have hcz26_3 : w24.cell? ⟨gb218, 3, none⟩ = some (.int .u64 0) := (blk_cell BK218.out 3).trans rfl; have hfz26_0 := blk_frozen BK218.out 0; have hfz26_1 := blk_frozen BK218.out 1; have hfz26_2 := blk_frozen BK218.out 2; have hfz26_3 := blk_frozen BK218.out 3))
            (try simp only [Act.put, List.setIfInBounds_toArray, List.set_cons_zero, List.set_cons_succ])
            have H := HS19.out
            clear HS19
            by_cases c27 : t203 = true
            · subst c27
              have H1 : (if t210 ≤ (IntKind.u64.wrap ((IntKind.u64.wrap ((Int.tmod (IntKind.u64.wrap (a0)) 1000000) + 2400)) + 1200)) then (if t210 ≥ (IntKind.u64.wrap ((Int.tmod (IntKind.u64.wrap (a0)) 1000000) + 2400)) then (if t214 = (IntKind.u64.wrap ((IntKind.u64.wrap ((Int.tmod (IntKind.u64.wrap (a0)) 1000000) + 2400)) + 1200)) then (some (t217 == 0)) else (some false)) else (some false)) else (some false)) = some r := by rw [if_pos rfl] at H; exact H
              clear H
              have H := H1
              clear H1
              by_cases c28 : t210 ≤ (IntKind.u64.wrap ((IntKind.u64.wrap ((Int.tmod (IntKind.u64.wrap (a0)) 1000000) + 2400)) + 1200))
              · rw [if_pos c28] at H
                have c28b0 : decide (t210 ≤ (IntKind.u64.wrap ((IntKind.u64.wrap ((Int.tmod (IntKind.u64.wrap (a0)) 1000000) + 2400)) + 1200))) = true := decide_eq_true c28
                clear c28
                by_cases c29 : t210 ≥ (IntKind.u64.wrap ((Int.tmod (IntKind.u64.wrap (a0)) 1000000) + 2400))
                · rw [if_pos c29] at H
                  have c29b0 : decide ((IntKind.u64.wrap ((Int.tmod (IntKind.u64.wrap (a0)) 1000000) + 2400)) ≤ t210) = true := decide_eq_true c29
                  clear c29
                  by_cases c30 : t214 = (IntKind.u64.wrap ((IntKind.u64.wrap ((Int.tmod (IntKind.u64.wrap (a0)) 1000000) + 2400)) + 1200))
                  · rw [if_pos c30] at H
                    have c30b0 : (t214 == (IntKind.u64.wrap ((IntKind.u64.wrap ((Int.tmod (IntKind.u64.wrap (a0)) 1000000) + 2400)) + 1200))) = true := beq_iff_eq.mpr c30
                    have c30b1 : (t214 != (IntKind.u64.wrap ((IntKind.u64.wrap ((Int.tmod (IntKind.u64.wrap (a0)) 1000000) + 2400)) + 1200))) = false := bne_eq_false_iff_eq.mpr c30
                    clear c30
                    obtain rfl := Option.some.inj H
                    have hnb31 := NB204_218.out
                    have hnc31 := NB218_204.out
                    have hcz32_0 : w24.cell? ⟨gb204, 0, none⟩ = some (.int .u64 t210) := (blk_cell BK204.out 0).trans rfl
                    have hcz32_1 : w24.cell? ⟨gb204, 1, none⟩ = some (.int .u64 t211) := (blk_cell BK204.out 1).trans rfl
                    have hcz32_2 : w24.cell? ⟨gb204, 2, none⟩ = some (.int .u64 t212) := (blk_cell BK204.out 2).trans rfl
                    have hcz32_3 : w24.cell? ⟨gb204, 3, none⟩ = some (.int .u64 t213) := (blk_cell BK204.out 3).trans rfl
                    have hfz32_0 := blk_frozen BK204.out 0
                    have hfz32_1 := blk_frozen BK204.out 1
                    have hfz32_2 := blk_frozen BK204.out 2
                    have hfz32_3 := blk_frozen BK204.out 3
                    have hcz33_0 : w24.cell? ⟨gb218, 0, none⟩ = some (.int .u64 0) := (blk_cell BK218.out 0).trans rfl
                    have hcz33_1 : w24.cell? ⟨gb218, 1, none⟩ = some (.int .u64 0) := (blk_cell BK218.out 1).trans rfl
                    have hcz33_2 : w24.cell? ⟨gb218, 2, none⟩ = some (.int .u64 0) := (blk_cell BK218.out 2).trans rfl
                    have hcz33_3 : w24.cell? ⟨gb218, 3, none⟩ = some (.int .u64 0) := (blk_cell BK218.out 3).trans rfl
                    have hfz33_0 := blk_frozen BK218.out 0
                    have hfz33_1 := blk_frozen BK218.out 1
                    have hfz33_2 := blk_frozen BK218.out 2
                    have hfz33_3 := blk_frozen BK218.out 3
                    go_wp2
                    go_ret
                    exact ⟨by first | rfl | (simp [errW_none, errW_some] <;> rfl) | (simp [*, errW_none, errW_some] <;> rfl), by repeat (first | (with_reducible first | exact HB.out | apply below_alloc | apply pw_below_drewN | apply below_drew1 | refine below_set ?_ GE204.out | refine below_set ?_ GE218.out) | exact HB.out)⟩
                  · rw [if_neg c30] at H
                    have c30b0 : (t214 == (IntKind.u64.wrap ((IntKind.u64.wrap ((Int.tmod (IntKind.u64.wrap (a0)) 1000000) + 2400)) + 1200))) = false := beq_eq_false_iff_ne.mpr c30
                    have c30b1 : (t214 != (IntKind.u64.wrap ((IntKind.u64.wrap ((Int.tmod (IntKind.u64.wrap (a0)) 1000000) + 2400)) + 1200))) = true := bne_iff_ne.mpr c30
                    obtain rfl := Option.some.inj H
                    have hnb34 := NB204_218.out
                    have hnc34 := NB218_204.out
                    have hcz35_0 : w24.cell? ⟨gb204, 0, none⟩ = some (.int .u64 t210) := (blk_cell BK204.out 0).trans rfl
                    have hcz35_1 : w24.cell? ⟨gb204, 1, none⟩ = some (.int .u64 t211) := (blk_cell BK204.out 1).trans rfl
                    have hcz35_2 : w24.cell? ⟨gb204, 2, none⟩ = some (.int .u64 t212) := (blk_cell BK204.out 2).trans rfl
                    have hcz35_3 : w24.cell? ⟨gb204, 3, none⟩ = some (.int .u64 t213) := (blk_cell BK204.out 3).trans rfl
                    have hfz35_0 := blk_frozen BK204.out 0
                    have hfz35_1 := blk_frozen BK204.out 1
                    have hfz35_2 := blk_frozen BK204.out 2
                    have hfz35_3 := blk_frozen BK204.out 3
                    have hcz36_0 : w24.cell? ⟨gb218, 0, none⟩ = some (.int .u64 0) := (blk_cell BK218.out 0).trans rfl
                    have hcz36_1 : w24.cell? ⟨gb218, 1, none⟩ = some (.int .u64 0) := (blk_cell BK218.out 1).trans rfl
                    have hcz36_2 : w24.cell? ⟨gb218, 2, none⟩ = some (.int .u64 0) := (blk_cell BK218.out 2).trans rfl
                    have hcz36_3 : w24.cell? ⟨gb218, 3, none⟩ = some (.int .u64 0) := (blk_cell BK218.out 3).trans rfl
                    have hfz36_0 := blk_frozen BK218.out 0
                    have hfz36_1 := blk_frozen BK218.out 1
                    have hfz36_2 := blk_frozen BK218.out 2
                    have hfz36_3 := blk_frozen BK218.out 3
                    go_wp2
                    go_ret
                    exact ⟨by first | rfl | (simp [errW_none, errW_some] <;> rfl) | (simp [*, errW_none, errW_some] <;> rfl), by repeat (first | (with_reducible first | exact HB.out | apply below_alloc | apply pw_below_drewN | apply below_drew1 | refine below_set ?_ GE204.out | refine below_set ?_ GE218.out) | exact HB.out)⟩
                · rw [if_neg c29] at H
                  have c29b0 : decide ((IntKind.u64.wrap ((Int.tmod (IntKind.u64.wrap (a0)) 1000000) + 2400)) ≤ t210) = false := decide_eq_false c29
                  clear c29
                  obtain rfl := Option.some.inj H
                  have hnb37 := NB204_218.out
                  have hnc37 := NB218_204.out
                  have hcz38_0 : w24.cell? ⟨gb204, 0, none⟩ = some (.int .u64 t210) := (blk_cell BK204.out 0).trans rfl
                  have hcz38_1 : w24.cell? ⟨gb204, 1, none⟩ = some (.int .u64 t211) := (blk_cell BK204.out 1).trans rfl
                  have hcz38_2 : w24.cell? ⟨gb204, 2, none⟩ = some (.int .u64 t212) := (blk_cell BK204.out 2).trans rfl
                  have hcz38_3 : w24.cell? ⟨gb204, 3, none⟩ = some (.int .u64 t213) := (blk_cell BK204.out 3).trans rfl
                  have hfz38_0 := blk_frozen BK204.out 0
                  have hfz38_1 := blk_frozen BK204.out 1
                  have hfz38_2 := blk_frozen BK204.out 2
                  have hfz38_3 := blk_frozen BK204.out 3
                  go_wp2
                  go_ret
                  exact ⟨by first | rfl | (simp [errW_none, errW_some] <;> rfl) | (simp [*, errW_none, errW_some] <;> rfl), by repeat (first | (with_reducible first | exact HB.out | apply below_alloc | apply pw_below_drewN | apply below_drew1 | refine below_set ?_ GE204.out | refine below_set ?_ GE218.out) | exact HB.out)⟩
              · rw [if_neg c28] at H
                have c28b0 : decide (t210 ≤ (IntKind.u64.wrap ((IntKind.u64.wrap ((Int.tmod (IntKind.u64.wrap (a0)) 1000000) + 2400)) + 1200))) = false := decide_eq_false c28
                clear c28
                obtain rfl := Option.some.inj H
                have hnb39 := NB204_218.out
                have hnc39 := NB218_204.out
                have hcz40_0 : w24.cell? ⟨gb204, 0, none⟩ = some (.int .u64 t210) := (blk_cell BK204.out 0).trans rfl
                have hcz40_1 : w24.cell? ⟨gb204, 1, none⟩ = some (.int .u64 t211) := (blk_cell BK204.out 1).trans rfl
                have hcz40_2 : w24.cell? ⟨gb204, 2, none⟩ = some (.int .u64 t212) := (blk_cell BK204.out 2).trans rfl
                have hcz40_3 : w24.cell? ⟨gb204, 3, none⟩ = some (.int .u64 t213) := (blk_cell BK204.out 3).trans rfl
                have hfz40_0 := blk_frozen BK204.out 0
                have hfz40_1 := blk_frozen BK204.out 1
                have hfz40_2 := blk_frozen BK204.out 2
                have hfz40_3 := blk_frozen BK204.out 3
                go_wp2
                go_ret
                exact ⟨by first | rfl | (simp [errW_none, errW_some] <;> rfl) | (simp [*, errW_none, errW_some] <;> rfl), by repeat (first | (with_reducible first | exact HB.out | apply below_alloc | apply pw_below_drewN | apply below_drew1 | refine below_set ?_ GE204.out | refine below_set ?_ GE218.out) | exact HB.out)⟩
            · replace c27 := Bool.eq_false_iff.mpr c27
              subst c27
              have H1 : (some false) = some r := by rw [if_neg (show ¬ (false = true) by decide)] at H; exact H
              clear H
              have H := H1
              clear H1
              obtain rfl := Option.some.inj H
              go_wp2
              go_ret
              exact ⟨by first | rfl | (simp [errW_none, errW_some] <;> rfl) | (simp [*, errW_none, errW_some] <;> rfl), by repeat (first | (with_reducible first | exact HB.out | apply below_alloc | apply pw_below_drewN | apply below_drew1 | refine below_set ?_ GE204.out | refine below_set ?_ GE218.out) | exact HB.out)⟩

/-- THE ONE PURE STATEMENT of wigwaglaw10_RenoRound: yours. -/
def wigwaglaw10_RenoRound.Pure : Prop := ∀ (a0 : Int) (l1 : List Int), (Lit.int .u32 a0).wf = true → l1.length ≤ maxLen → l1.length * 2 ≤ 140737488351232 → (∀ x ∈ l1, (Lit.int .u16 x).wf = true) → ∃ k, wigwaglaw10_RenoRound.f k a0 l1 = some true
theorem wigwaglaw10_RenoRound.walk (P : wigwaglaw10_RenoRound.Pure) (a0 : Int) (a1 : Option Addr) (len1 cap1 : Nat) (z1 : List Int) (w : World) (w0 : (Lit.int .u32 a0).wf = true) (w1 : (a1 = none ∧ len1 = 0 ∧ cap1 = 0 ∧ z1 = []) ∨ ∃ x, a1 = some x ∧ len1 ≤ cap1 ∧ cap1 ≤ maxLen ∧ z1.length = cap1 ∧ (∀ i, i < z1.length → w.cell? (x.add i) = some (.int .u16 (z1.getD i 0))) ∧ ∀ n ∈ z1, (Lit.int .u16 n).wf = true) (y1 : len1 * 2 ≤ 140737488351232) :
    Calls Try.prog 7 #[.int .u32 a0, .slice a1 len1 cap1] w fun e w' => e = .returned (.bool true) ∧ Below w.heap.size w w' := by
  obtain ⟨l1, rfl, hr1, hm1, hw1, hc1⟩ := ReadsInt.ofRowC w1
  obtain ⟨k, h⟩ := P a0 l1 w0 hm1 y1 hw1
  refine (wigwaglaw10_RenoRound.calls k a0 _ _ l1 true w (Kd.C_of_reads (d := (0 : Int)) (h1 := fun _ => rfl) hr1) hc1 h).mono ?_
  rintro e w' ⟨rfl, hd⟩
  exact ⟨rfl, hd⟩

end Go.Proofs.Ytmajccpifkbdpaa.P
