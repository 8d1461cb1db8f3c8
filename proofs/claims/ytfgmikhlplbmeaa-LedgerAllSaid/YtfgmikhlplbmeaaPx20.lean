-- Printed for this claim by xprint.py of this session: contracts of this session's own stand in for what the print does not take
import Derived.Test.YtfgmikhlplbmeaaPx0
import Derived.Test.YtfgmikhlplbmeaaPx16
namespace Go.Proofs.Ytfgmikhlplbmeaa.P
open Go.RowKit Go.Proofs.YtfgmikhlplbmeaaW.PrintWords Go.Proofs.YtfgmikhlplbmeaaW.PrintLast Go.Proofs.YtfgmikhlplbmeaaW.PrintMore
attribute [local go_sem] max2_int min2_int max_two min_two max_three min_three max_four min_four   -- for this text's walks alone
set_option linter.unusedVariables false
set_option linter.unusedSimpArgs false

/-! ### wigwagref09_Lost: function 20 -/
mutual
def wigwagref09_Lost.l0 : Nat → List (S37) → Int → Int → Int → List (S37) → List (S37) → Int → Bool → Int → Option ((List (S37)) × (List (S37)) × Int)
  | 0, _, _, _, _, _, _, _, _, _ => none
  | k + 1, x0, x1, x2, x3, x11, x12, x13, x14, x15 => if x15 < (x0.length : Int) then (if 0 ≤ x15 then ((wigwagref01_Add.f ((rd_T37 x0 x15).f0) 1).bind fun t329 => ((wigwagref01_Add.f ((rd_T37 x0 x15).f1) x3).bind fun t331 => (if t329 < x1 then ((wigwagref01_Add.f ((rd_T37 x0 x15).f0) 4).bind fun t333 => (if t333 ≤ x1 then (wigwagref09_Lost.j1 k x0 x1 x2 x3 x11 x12 x13 x14 x15 (decide (t329 < x1)) t331 true) else (wigwagref09_Lost.j1 k x0 x1 x2 x3 x11 x12 x13 x14 x15 (decide (t329 < x1)) t331 (decide (t331 ≤ x2))))) else (wigwagref09_Lost.j1 k x0 x1 x2 x3 x11 x12 x13 x14 x15 (decide (t329 < x1)) t331 false)))) else (none)) else (some (x11, x12, x13))
def wigwagref09_Lost.j1 : Nat → List (S37) → Int → Int → Int → List (S37) → List (S37) → Int → Bool → Int → Bool → Int → Bool → Option ((List (S37)) × (List (S37)) × Int)
  | 0, _, _, _, _, _, _, _, _, _, _, _, _ => none
  | k + 1, x0, x1, x2, x3, x11, x12, x13, x14, x15, x16, x17, x54 => if x54 = true then (if 0 ≤ x15 then (if x15 < (x0.length : Int) then (if x11.length < 4398046511104 then (wigwagref09_Lost.l0 k x0 x1 x2 x3 (x11 ++ [(⟨(rd_T37 x0 x15).f0, (rd_T37 x0 x15).f1, (rd_T37 x0 x15).f2, (rd_T37 x0 x15).f3⟩ : S37)]) x12 x13 x14 (wrap64 (x15 + 1))) else (none)) else (none)) else (none)) else (if 0 ≤ x15 then (if x15 < (x0.length : Int) then (if x12.length < 4398046511104 then ((some (x12 ++ [(⟨(rd_T37 x0 x15).f0, (rd_T37 x0 x15).f1, (rd_T37 x0 x15).f2, (rd_T37 x0 x15).f3⟩ : S37)] : List (S37))).bind fun y339 => (if x16 = true then (if x14 = true then (if x17 < x13 then (wigwagref09_Lost.l0 k x0 x1 x2 x3 x11 y339 x17 true (wrap64 (x15 + 1))) else (wigwagref09_Lost.l0 k x0 x1 x2 x3 x11 y339 x13 x14 (wrap64 (x15 + 1)))) else (wigwagref09_Lost.l0 k x0 x1 x2 x3 x11 y339 x17 true (wrap64 (x15 + 1)))) else (wigwagref09_Lost.l0 k x0 x1 x2 x3 x11 y339 x13 x14 (wrap64 (x15 + 1))))) else (none)) else (none)) else (none))
end
def wigwagref09_Lost.f (k : Nat) (l0 : List (S37)) (a1 : Int) (a2 : Int) (a3 : Int) : Option ((List (S37)) × (List (S37)) × Int) := wigwagref09_Lost.l0 k l0 a1 a2 a3 ([] : List (S37)) ([] : List (S37)) 0 false 0
theorem wigwagref09_Lost.mono_l : ∀ k, (∀ y0 y1 y2 y3 y4 y5 y6 y7 y8, LeO (wigwagref09_Lost.l0 k y0 y1 y2 y3 y4 y5 y6 y7 y8) (wigwagref09_Lost.l0 (k + 1) y0 y1 y2 y3 y4 y5 y6 y7 y8)) ∧ (∀ y0 y1 y2 y3 y4 y5 y6 y7 y8 y9 y10 y11, LeO (wigwagref09_Lost.j1 k y0 y1 y2 y3 y4 y5 y6 y7 y8 y9 y10 y11) (wigwagref09_Lost.j1 (k + 1) y0 y1 y2 y3 y4 y5 y6 y7 y8 y9 y10 y11))
  | 0 => ⟨fun _ _ _ _ _ _ _ _ _ r h => by simp [wigwagref09_Lost.l0] at h, fun _ _ _ _ _ _ _ _ _ _ _ _ r h => by simp [wigwagref09_Lost.j1] at h⟩
  | k + 1 => by
    obtain ⟨ih0, ih1⟩ := wigwagref09_Lost.mono_l k
    refine ⟨?_, ?_⟩
    · intro y0 y1 y2 y3 y4 y5 y6 y7 y8
      unfold wigwagref09_Lost.l0
      repeat' first
      | (with_reducible exact ih0 _ _ _ _ _ _ _ _ _)
      | (with_reducible exact ih1 _ _ _ _ _ _ _ _ _ _ _ _)
      | (with_reducible exact LeO.refl _)
      | (with_reducible exact LeO.none _)
      | (with_reducible refine LeO.ite ?_ ?_)
      | (with_reducible refine LeO.bind ?_ (fun _ => ?_))
      | exact ih0 _ _ _ _ _ _ _ _ _
      | exact ih1 _ _ _ _ _ _ _ _ _ _ _ _
      | exact LeO.none _
      | refine LeO.ite ?_ ?_
      | refine LeO.bind ?_ (fun _ => ?_)
    · intro y0 y1 y2 y3 y4 y5 y6 y7 y8 y9 y10 y11
      unfold wigwagref09_Lost.j1
      repeat' first
      | (with_reducible exact ih0 _ _ _ _ _ _ _ _ _)
      | (with_reducible exact ih1 _ _ _ _ _ _ _ _ _ _ _ _)
      | (with_reducible exact LeO.refl _)
      | (with_reducible exact LeO.none _)
      | (with_reducible refine LeO.ite ?_ ?_)
      | (with_reducible refine LeO.bind ?_ (fun _ => ?_))
      | exact ih0 _ _ _ _ _ _ _ _ _
      | exact ih1 _ _ _ _ _ _ _ _ _ _ _ _
      | exact LeO.none _
      | refine LeO.ite ?_ ?_
      | refine LeO.bind ?_ (fun _ => ?_)
theorem wigwagref09_Lost.mono : ∀ a0 a1 a2 a3 k, LeO (wigwagref09_Lost.f k a0 a1 a2 a3) (wigwagref09_Lost.f (k + 1) a0 a1 a2 a3) := by
  intro a0 a1 a2 a3 k
  obtain ⟨ih0, ih1⟩ := wigwagref09_Lost.mono_l k
  unfold wigwagref09_Lost.f
  repeat' first
      | (with_reducible exact ih0 _ _ _ _ _ _ _ _ _)
      | (with_reducible exact ih1 _ _ _ _ _ _ _ _ _ _ _ _)
      | (with_reducible exact LeO.refl _)
      | (with_reducible exact LeO.none _)
      | (with_reducible refine LeO.ite ?_ ?_)
      | (with_reducible refine LeO.bind ?_ (fun _ => ?_))
      | exact ih0 _ _ _ _ _ _ _ _ _
      | exact ih1 _ _ _ _ _ _ _ _ _ _ _ _
      | exact LeO.none _
      | refine LeO.ite ?_ ?_
      | refine LeO.bind ?_ (fun _ => ?_)
set_option maxHeartbeats 8000000 in
set_option maxRecDepth 100000 in
theorem wigwagref09_Lost.calls (k : Nat) (A0 : Option Addr) (c0 : Nat) (l0 : List (S37)) (a1 : Int) (a2 : Int) (a3 : Int) (r1 : List (S37)) (r2 : List (S37)) (r3 : Int) (w : World) (hr0 : Kd.C k37 w A0 l0.length l0) (hc0 : l0.length ≤ c0) (h : wigwagref09_Lost.f k l0 a1 a2 a3 = some (r1, r2, r3)) :
    Calls Try.prog 20 #[.slice A0 l0.length c0, .int .u64 a1, .int .u64 a2, .int .u64 a3] w fun e w' => ∃ v0_ v1_ : Value, e = .returned (.tuple #[v0_, v1_, .int .u64 r3]) ∧ Kd.R k37 37 w' w.heap.size (fun k_ => some k_ ≠ (v1_ : Value).ownBlock) v0_ r1 ∧ Kd.R k37 37 w' w.heap.size (fun k_ => some k_ ≠ (v0_ : Value).ownBlock) v1_ r2 ∧ Below w.heap.size w w' := by
  have hu37 := Try.underlying37
  have HR0 := Aside0.mk hr0
  have HC0 := Aside0.mk hc0
  clear hr0 hc0
  have HB := Aside0.mk (Below.refl w.heap.size w)
  have H : (wigwagref09_Lost.l0 k l0 a1 a2 a3 ([] : List (S37)) ([] : List (S37)) 0 false 0) = some (r1, r2, r3) := h
  clear h
  have H' := Aside0.mk H
  clear H
  go_enter Try.func20, Try.ntmps20
  go_wp2
  go_loopg [11, 12, 13, 14, 15] k (fun kq v11 v12 v13 v14 v15 w' => ∃ (x11_1 : List (S37)) (x12_1 : List (S37)) (x13_1 : Int) (x14_1 : Bool) (x15_1 : Int), v13 = .int .u64 x13_1 ∧ v14 = .bool x14_1 ∧ v15 = .int .i64 x15_1 ∧ Aside0 (wigwagref09_Lost.l0 kq l0 a1 a2 a3 x11_1 x12_1 x13_1 x14_1 x15_1 = some (r1, r2, r3)) ∧ Aside0 (kq ≤ k) ∧ Aside0 (Kd.R k37 37 w' w.heap.size (fun k_ => some k_ ≠ (v12 : Value).ownBlock) v11 x11_1) ∧ Aside0 (Kd.R k37 37 w' w.heap.size (fun k_ => some k_ ≠ (v11 : Value).ownBlock) v12 x12_1) ∧ Aside0 (Below w.heap.size w w'))
  case atStart => exact ⟨(([] : List (S37))), (([] : List (S37))), (0), (false), (0), (by first | rfl | (simp; done) | (simp [*]; done)), (by first | rfl | (simp; done) | (simp [*]; done)), (by first | rfl | (simp; done) | (simp [*]; done)), H', ⟨Nat.le_refl _⟩, ⟨by first | exact Kd.R_nil _ _ _ _ _ | exact Kd.N_nil _ _ _ _ _ | exact Kd.V_nil _ _ _ _ _ | exact Kd.Q_nil _ _ _ _ _ | exact Kd.S_nil _ _ _ _ _⟩, ⟨by first | exact Kd.R_nil _ _ _ _ _ | exact Kd.N_nil _ _ _ _ _ | exact Kd.V_nil _ _ _ _ _ | exact Kd.Q_nil _ _ _ _ _ | exact Kd.S_nil _ _ _ _ _⟩, ⟨by repeat (first | (with_reducible first | exact HB.out | apply below_alloc | apply pw_below_drewN | apply below_drew1) | exact HB.out)⟩⟩
  case round =>
    clear H'
    try clear c2
    try clear p2
    obtain ⟨x11_1, x12_1, x13_1, x14_1, x15_1, rfl, rfl, rfl, HA, HK1, HO_11, HO_12, HB⟩ := hrel
    cases gk with
    | zero => exact absurd HA.out (by simp [wigwagref09_Lost.l0])
    | succ k1 =>
      have H := HA.out
      clear HA
      simp only [wigwagref09_Lost.l0] at H
      by_cases c5 : x15_1 < (l0.length : Int)
      · rw [if_pos c5] at H
        have c5b0 : decide (x15_1 < (l0.length : Int)) = true := decide_eq_true c5
        clear c5
        by_cases c6 : 0 ≤ x15_1
        · rw [if_pos c6] at H
          have c6b0 : decide (0 ≤ x15_1) = true := decide_eq_true c6
          clear c6
          replace H := Option.bind_eq_some_iff.mp H
          obtain ⟨t329, A70, H⟩ := H
          replace H : ((wigwagref01_Add.f ((rd_T37 l0 x15_1).f1) a3).bind fun t331 => (if t329 < a1 then ((wigwagref01_Add.f ((rd_T37 l0 x15_1).f0) 4).bind fun t333 => (if t333 ≤ a1 then (wigwagref09_Lost.j1 k1 l0 a1 a2 a3 x11_1 x12_1 x13_1 x14_1 x15_1 (decide (t329 < a1)) t331 true) else (wigwagref09_Lost.j1 k1 l0 a1 a2 a3 x11_1 x12_1 x13_1 x14_1 x15_1 (decide (t329 < a1)) t331 (decide (t331 ≤ a2))))) else (wigwagref09_Lost.j1 k1 l0 a1 a2 a3 x11_1 x12_1 x13_1 x14_1 x15_1 (decide (t329 < a1)) t331 false))) = some (r1, r2, r3) := H
          have A7 := Aside0.mk A70
          clear A70
          replace H := Option.bind_eq_some_iff.mp H
          obtain ⟨t331, A80, H⟩ := H
          replace H : (if t329 < a1 then ((wigwagref01_Add.f ((rd_T37 l0 x15_1).f0) 4).bind fun t333 => (if t333 ≤ a1 then (wigwagref09_Lost.j1 k1 l0 a1 a2 a3 x11_1 x12_1 x13_1 x14_1 x15_1 (decide (t329 < a1)) t331 true) else (wigwagref09_Lost.j1 k1 l0 a1 a2 a3 x11_1 x12_1 x13_1 x14_1 x15_1 (decide (t329 < a1)) t331 (decide (t331 ≤ a2))))) else (wigwagref09_Lost.j1 k1 l0 a1 a2 a3 x11_1 x12_1 x13_1 x14_1 x15_1 (decide (t329 < a1)) t331 false)) = some (r1, r2, r3) := H
          have A8 := Aside0.mk A80
          clear A80
          have HC9 := Aside0.mk H
          clear H
          have p328 : 0 ≤ (x15_1 : Int) := of_decide_eq_true (by first | (with_reducible assumption) | assumption)
          have q328 : x15_1 < (l0.length : Int) := of_decide_eq_true (by first | (with_reducible assumption) | assumption)
          obtain ⟨ad328, e328, hx328_0, hx328_1, hx328_2, hx328_3⟩ := at_T37 HR0.out x15_1 p328 q328
          cases e328
          replace hx328_0 := (HB.out.cell (World.block_lt_of_cell? w _ hx328_0)).trans hx328_0
          replace hx328_1 := (HB.out.cell (World.block_lt_of_cell? w _ hx328_1)).trans hx328_1
          replace hx328_2 := (HB.out.cell (World.block_lt_of_cell? w _ hx328_2)).trans hx328_2
          replace hx328_3 := (HB.out.cell (World.block_lt_of_cell? w _ hx328_3)).trans hx328_3
          replace p328 := eq_true p328
          replace q328 := eq_true q328
          go_upto_region 10 with (first | ((with_reducible refine gate_callee (f := 23) rfl ?_); refine goesL_ (some 29) rfl rfl Try.func23 (by kernel_rfl) rfl #[.int .u64 ((rd_T37 l0 x15_1).f0), .int .u64 1] rfl (by (try simp only [List.map_toArray, List.map_cons, List.map_nil]); first | done | rfl | (simp only [List.length_drop, List.length_take]; rfl)) ?_; (with_reducible refine (wigwagref01_Add.calls ((rd_T37 l0 x15_1).f0) 1 t329 _ A7.out).mono ?_); rintro e w' ⟨rfl, ⟨nd, rfl⟩⟩; refine ⟨_, rfl, ?_⟩; have p330 : 0 ≤ (x15_1 : Int) := of_decide_eq_true (by first | (with_reducible assumption) | assumption); have q330 : x15_1 < (l0.length : Int) := of_decide_eq_true (by first | (with_reducible assumption) | assumption); obtain ⟨ad330, e330, hx330_0, hx330_1, hx330_2, hx330_3⟩ := at_T37 HR0.out x15_1 p330 q330; obtain rfl : ad328 = ad330 := (by injection e330); replace hx330_0 := (HB.out.cell (World.block_lt_of_cell? w _ hx330_0)).trans hx330_0; replace hx330_1 := (HB.out.cell (World.block_lt_of_cell? w _ hx330_1)).trans hx330_1; replace hx330_2 := (HB.out.cell (World.block_lt_of_cell? w _ hx330_2)).trans hx330_2; replace hx330_3 := (HB.out.cell (World.block_lt_of_cell? w _ hx330_3)).trans hx330_3; replace p330 := eq_true p330; replace q330 := eq_true q330) | ((with_reducible refine gate_callee (f := 23) rfl ?_); refine goesL_ (some 38) rfl rfl Try.func23 (by kernel_rfl) rfl #[.int .u64 ((rd_T37 l0 x15_1).f1), .int .u64 a3] rfl (by (try simp only [List.map_toArray, List.map_cons, List.map_nil]); first | done | rfl | (simp only [List.length_drop, List.length_take]; rfl)) ?_; (with_reducible refine (wigwagref01_Add.calls ((rd_T37 l0 x15_1).f1) a3 t331 _ A8.out).mono ?_); rintro e w' ⟨rfl, ⟨nd, rfl⟩⟩; refine ⟨_, rfl, ?_⟩))
          (try simp only [Act.put, List.setIfInBounds_toArray, List.set_cons_zero, List.set_cons_succ])
          go_cut [54] (fun v54 wc => ∃ (kq : Nat) (x54_8 : Bool), v54 = .bool x54_8 ∧ Aside0 (wigwagref09_Lost.j1 kq l0 a1 a2 a3 x11_1 x12_1 x13_1 x14_1 x15_1 (decide (t329 < a1)) t331 x54_8 = some (r1, r2, r3)) ∧ Aside0 (kq ≤ k1) ∧ Aside0 (Kd.R k37 37 wc w.heap.size (fun k_ => some k_ ≠ (u12 : Value).ownBlock) u11 x11_1) ∧ Aside0 (Kd.R k37 37 wc w.heap.size (fun k_ => some k_ ≠ (u11 : Value).ownBlock) u12 x12_1) ∧ Aside0 (Below w.heap.size w wc))
          case first =>
            have H := HC9.out
            clear HC9
            by_cases c10 : t329 < a1
            · rw [if_pos c10] at H
              have c10b0 : decide (t329 < a1) = true := decide_eq_true c10
              clear c10
              (first | rw [c10b0] | (simp only [i64_w, i32_w]; rw [c10b0]) | skip)
              replace H := Option.bind_eq_some_iff.mp H
              obtain ⟨t333, A110, H⟩ := H
              replace H : (if t333 ≤ a1 then (wigwagref09_Lost.j1 k1 l0 a1 a2 a3 x11_1 x12_1 x13_1 x14_1 x15_1 (decide (t329 < a1)) t331 true) else (wigwagref09_Lost.j1 k1 l0 a1 a2 a3 x11_1 x12_1 x13_1 x14_1 x15_1 (decide (t329 < a1)) t331 (decide (t331 ≤ a2)))) = some (r1, r2, r3) := H
              have A11 := Aside0.mk A110
              clear A110
              by_cases c12 : t333 ≤ a1
              · rw [if_pos c12] at H
                have c12b0 : decide (t333 ≤ a1) = true := decide_eq_true c12
                clear c12
                have H' := Aside0.mk H
                clear H
                have p332 : 0 ≤ (x15_1 : Int) := of_decide_eq_true (by first | (with_reducible assumption) | assumption)
                have q332 : x15_1 < (l0.length : Int) := of_decide_eq_true (by first | (with_reducible assumption) | assumption)
                obtain ⟨ad332, e332, hx332_0, hx332_1, hx332_2, hx332_3⟩ := at_T37 HR0.out x15_1 p332 q332
                obtain rfl : ad328 = ad332 := (by injection e332)
                replace hx332_0 := (HB.out.cell (World.block_lt_of_cell? w _ hx332_0)).trans hx332_0
                replace hx332_1 := (HB.out.cell (World.block_lt_of_cell? w _ hx332_1)).trans hx332_1
                replace hx332_2 := (HB.out.cell (World.block_lt_of_cell? w _ hx332_2)).trans hx332_2
                replace hx332_3 := (HB.out.cell (World.block_lt_of_cell? w _ hx332_3)).trans hx332_3
                replace p332 := eq_true p332
                replace q332 := eq_true q332
                go_wp2_with (first | (go_at_call 23; (with_reducible refine (wigwagref01_Add.calls ((rd_T37 l0 x15_1).f0) 4 t333 _ A11.out).mono ?_); rintro e w' ⟨rfl, ⟨nd, rfl⟩⟩))
                simp only [c10b0] at *
                go_meet
                case rel => exact ⟨_, (true), (by first | rfl | (simp; done) | (simp [*]; done)), H', ⟨by have := HK1.out; first | omega | exact Nat.le_refl _⟩, ⟨by (with_reducible repeat (first | apply Kd.R_alloc | apply Kd.R_drewN | apply Kd.R_drew)); exact HO_11.out⟩, ⟨by (with_reducible repeat (first | apply Kd.R_alloc | apply Kd.R_drewN | apply Kd.R_drew)); exact HO_12.out⟩, ⟨by repeat (first | (with_reducible first | exact HB.out | apply below_alloc | apply pw_below_drewN | apply below_drew1) | exact HB.out)⟩⟩
              · rw [if_neg c12] at H
                have c12b0 : decide (t333 ≤ a1) = false := decide_eq_false c12
                clear c12
                have H' := Aside0.mk H
                clear H
                have p332 : 0 ≤ (x15_1 : Int) := of_decide_eq_true (by first | (with_reducible assumption) | assumption)
                have q332 : x15_1 < (l0.length : Int) := of_decide_eq_true (by first | (with_reducible assumption) | assumption)
                obtain ⟨ad332, e332, hx332_0, hx332_1, hx332_2, hx332_3⟩ := at_T37 HR0.out x15_1 p332 q332
                obtain rfl : ad328 = ad332 := (by injection e332)
                replace hx332_0 := (HB.out.cell (World.block_lt_of_cell? w _ hx332_0)).trans hx332_0
                replace hx332_1 := (HB.out.cell (World.block_lt_of_cell? w _ hx332_1)).trans hx332_1
                replace hx332_2 := (HB.out.cell (World.block_lt_of_cell? w _ hx332_2)).trans hx332_2
                replace hx332_3 := (HB.out.cell (World.block_lt_of_cell? w _ hx332_3)).trans hx332_3
                replace p332 := eq_true p332
                replace q332 := eq_true q332
                go_wp2_with (first | (go_at_call 23; (with_reducible refine (wigwagref01_Add.calls ((rd_T37 l0 x15_1).f0) 4 t333 _ A11.out).mono ?_); rintro e w' ⟨rfl, ⟨nd, rfl⟩⟩))
                simp only [c10b0] at *
                go_meet
                case rel => exact ⟨_, (decide (t331 ≤ a2)), (by first | rfl | (simp; done) | (simp [*]; done)), H', ⟨by have := HK1.out; first | omega | exact Nat.le_refl _⟩, ⟨by (with_reducible repeat (first | apply Kd.R_alloc | apply Kd.R_drewN | apply Kd.R_drew)); exact HO_11.out⟩, ⟨by (with_reducible repeat (first | apply Kd.R_alloc | apply Kd.R_drewN | apply Kd.R_drew)); exact HO_12.out⟩, ⟨by repeat (first | (with_reducible first | exact HB.out | apply below_alloc | apply pw_below_drewN | apply below_drew1) | exact HB.out)⟩⟩
            · rw [if_neg c10] at H
              have c10b0 : decide (t329 < a1) = false := decide_eq_false c10
              clear c10
              (first | rw [c10b0] | (simp only [i64_w, i32_w]; rw [c10b0]) | skip)
              have H' := Aside0.mk H
              clear H
              go_wp2
              simp only [c10b0] at *
              go_meet
              case rel => exact ⟨_, (false), (by first | rfl | (simp; done) | (simp [*]; done)), H', ⟨by have := HK1.out; first | omega | exact Nat.le_refl _⟩, ⟨by (with_reducible repeat (first | apply Kd.R_alloc | apply Kd.R_drewN | apply Kd.R_drew)); exact HO_11.out⟩, ⟨by (with_reducible repeat (first | apply Kd.R_alloc | apply Kd.R_drewN | apply Kd.R_drew)); exact HO_12.out⟩, ⟨by repeat (first | (with_reducible first | exact HB.out | apply below_alloc | apply pw_below_drewN | apply below_drew1) | exact HB.out)⟩⟩
          case rest =>
            clear HC9
            try clear c1
            try clear c2
            try clear p2
            try clear p3
            try clear q3
            try clear hx3
            try clear c5
            try clear c5b0
            try clear c6
            try clear c6b0
            try clear c10
            try clear c10b0
            try clear c12
            try clear c12b0
            try clear hx328_0
            try clear hx328_1
            try clear hx328_2
            try clear hx328_3
            try clear hx330_0
            try clear hx330_1
            try clear hx330_2
            try clear hx330_3
            try clear hx332_0
            try clear hx332_1
            try clear hx332_2
            try clear hx332_3
            try clear p2
            try clear p328
            try clear p330
            try clear p332
            try clear q328
            try clear q330
            try clear q332
            obtain ⟨kq, x54_8, rfl, HA, HJ8, HO_11, HO_12, HB⟩ := hcut
            cases kq with
            | zero => exact absurd HA.out (by simp [wigwagref09_Lost.j1])
            | succ kj8 =>
              have H := HA.out
              clear HA
              simp only [wigwagref09_Lost.j1] at H
              by_cases c13 : x54_8 = true
              · subst c13
                have H1 : (if 0 ≤ x15_1 then (if x15_1 < (l0.length : Int) then (if x11_1.length < 4398046511104 then (wigwagref09_Lost.l0 kj8 l0 a1 a2 a3 (x11_1 ++ [(⟨(rd_T37 l0 x15_1).f0, (rd_T37 l0 x15_1).f1, (rd_T37 l0 x15_1).f2, (rd_T37 l0 x15_1).f3⟩ : S37)]) x12_1 x13_1 x14_1 (wrap64 (x15_1 + 1))) else (none)) else (none)) else (none)) = some (r1, r2, r3) := by rw [if_pos rfl] at H; exact H
                clear H
                have H := H1
                clear H1
                by_cases c14 : 0 ≤ x15_1
                · rw [if_pos c14] at H
                  have c14b0 : decide (0 ≤ x15_1) = true := decide_eq_true c14
                  clear c14
                  by_cases c15 : x15_1 < (l0.length : Int)
                  · rw [if_pos c15] at H
                    have c15b0 : decide (x15_1 < (l0.length : Int)) = true := decide_eq_true c15
                    clear c15
                    by_cases c16 : x11_1.length < 4398046511104
                    · rw [if_pos c16] at H
                      have LMc16 := Aside0.mk c16
                      clear c16
                      obtain ⟨y335, hy335⟩ : ∃ y_ : List (S37), y_ = (x11_1 ++ [(⟨(rd_T37 l0 x15_1).f0, (rd_T37 l0 x15_1).f1, (rd_T37 l0 x15_1).f2, (rd_T37 l0 x15_1).f3⟩ : S37)]) := ⟨_, rfl⟩
                      replace H : (wigwagref09_Lost.l0 kj8 l0 a1 a2 a3 y335 x12_1 x13_1 x14_1 (wrap64 (x15_1 + 1))) = some (r1, r2, r3) := by first | (rw [hy335]; with_reducible exact H) | (have H2_ := (Option.bind_some _ _).symm.trans H; rw [hy335]; with_reducible exact H2_) | (have H2_ := (Option.bind_some _ _).symm.trans H; with_reducible exact H2_) | with_reducible exact H | (rw [hy335]; exact H) | exact H
                      have Ny335 := Aside0.mk hy335
                      clear hy335
                      have H' := Aside0.mk H
                      clear H
                      have p334 : 0 ≤ (x15_1 : Int) := of_decide_eq_true (by first | (with_reducible assumption) | assumption)
                      have q334 : x15_1 < (l0.length : Int) := of_decide_eq_true (by first | (with_reducible assumption) | assumption)
                      obtain ⟨ad334, e334, hx334_0, hx334_1, hx334_2, hx334_3⟩ := at_T37 HR0.out x15_1 p334 q334
                      obtain rfl : ad328 = ad334 := (by injection e334)
                      replace hx334_0 := (HB.out.cell (World.block_lt_of_cell? w _ hx334_0)).trans hx334_0
                      replace hx334_1 := (HB.out.cell (World.block_lt_of_cell? w _ hx334_1)).trans hx334_1
                      replace hx334_2 := (HB.out.cell (World.block_lt_of_cell? w _ hx334_2)).trans hx334_2
                      replace hx334_3 := (HB.out.cell (World.block_lt_of_cell? w _ hx334_3)).trans hx334_3
                      replace p334 := eq_true p334
                      replace q334 := eq_true q334
                      go_wp2_with (first | ((with_reducible refine gate_builtin (b := .append) (xs := #[.tmp 55, .tmp 60]) rfl ?_); at_builtin; refine Kd.R_append k37 (w0 := w) w.heap.size rfl (.tmp 55) (.tmp 60) 22 37 (.agg #[(.int .u64 0), (.int .u64 0), (.int .u64 0), (.bool false)]) 32 rfl Try.underlying22 info37 rfl (by decide) (by omega) u11 x11_1 (⟨(rd_T37 l0 x15_1).f0, (rd_T37 l0 x15_1).f1, (rd_T37 l0 x15_1).f2, (rd_T37 l0 x15_1).f3⟩ : S37) [.int .u64 ((rd_T37 l0 x15_1).f0), .int .u64 ((rd_T37 l0 x15_1).f1), .int .u64 ((rd_T37 l0 x15_1).f2), .bool ((rd_T37 l0 x15_1).f3)] (fun k_ => some k_ ≠ (u12 : Value).ownBlock) (fun _ => False) rfl rfl ?aP (fun _ hk => hk.elim) ?aF ?aO ?aB ?aS ?aL ?_; (case aP => exact k37_mkM _ _ _ (⟨(rd_T37 l0 x15_1).f0, (rd_T37 l0 x15_1).f1, (rd_T37 l0 x15_1).f2, (rd_T37 l0 x15_1).f3⟩ : S37)); (case aB => exact (by repeat (first | (with_reducible first | exact HB.out | apply below_alloc | apply pw_below_drewN | apply below_drew1) | exact HB.out))); (case aF => exact (fun k_ hk => Kd.fresh' (Kd.R_lt (by (with_reducible repeat (first | apply Kd.R_alloc | apply Kd.R_drewN | apply Kd.R_drew)); exact HO_12.out)) k_ hk)); (case aO => exact (by (with_reducible repeat (first | apply Kd.R_alloc | apply Kd.R_drewN | apply Kd.R_drew)); exact HO_11.out)); (case aS => exact (below_size (by repeat (first | (with_reducible first | exact HB.out | apply below_alloc | apply pw_below_drewN | apply below_drew1) | exact HB.out)))); (case aL => have := LMc16.out; omega); intro v336 w17 ho hb hg hat; rw [← Ny335.out] at ho; have n0_ := Aside0.mk (Kd.R_after (ok := (fun _ => True)) (by (with_reducible repeat (first | apply Kd.R_alloc | apply Kd.R_drewN | apply Kd.R_drew)); exact Kd.R_mono HO_12.out (fun _ hk => ⟨trivial, hk⟩)) hg hat); have n1_ := Aside0.mk (hb); have n2_ := Aside0.mk (ho); clear HO_12; clear HB; clear HO_11; have HO_12 := n0_; have HB := n1_; have HO337 := n2_; clear n0_ n1_ n2_; clear ho hb hg hat))
                      go_roundg kj8
                      case measure => have := HK1.out; have := HJ8.out; omega
                      case rel => exact ⟨(y335), (x12_1), (x13_1), (x14_1), (wrap64 (x15_1 + 1)), (by first | rfl | (simp; done) | (simp [*]; done)), (by first | rfl | (simp; done) | (simp [*]; done)), (by first | rfl | (simp; done) | (simp [*]; done)), H', ⟨by have := HK1.out; have := HJ8.out; omega⟩, ⟨by (with_reducible repeat (first | apply Kd.R_alloc | apply Kd.R_drewN | apply Kd.R_drew)); exact HO337.out⟩, ⟨by (with_reducible repeat (first | apply Kd.R_alloc | apply Kd.R_drewN | apply Kd.R_drew)); exact Kd.R_mono HO_12.out (fun _ hk => hk.2)⟩, ⟨by repeat (first | (with_reducible first | exact HB.out | apply below_alloc | apply pw_below_drewN | apply below_drew1) | exact HB.out)⟩⟩
                    · rw [if_neg c16] at H
                      exact absurd H (by simp)
                  · rw [if_neg c15] at H
                    exact absurd H (by simp)
                · rw [if_neg c14] at H
                  exact absurd H (by simp)
              · replace c13 := Bool.eq_false_iff.mpr c13
                subst c13
                have H1 : (if 0 ≤ x15_1 then (if x15_1 < (l0.length : Int) then (if x12_1.length < 4398046511104 then ((some (x12_1 ++ [(⟨(rd_T37 l0 x15_1).f0, (rd_T37 l0 x15_1).f1, (rd_T37 l0 x15_1).f2, (rd_T37 l0 x15_1).f3⟩ : S37)] : List (S37))).bind fun y339 => (if (decide (t329 < a1)) = true then (if x14_1 = true then (if t331 < x13_1 then (wigwagref09_Lost.l0 kj8 l0 a1 a2 a3 x11_1 y339 t331 true (wrap64 (x15_1 + 1))) else (wigwagref09_Lost.l0 kj8 l0 a1 a2 a3 x11_1 y339 x13_1 x14_1 (wrap64 (x15_1 + 1)))) else (wigwagref09_Lost.l0 kj8 l0 a1 a2 a3 x11_1 y339 t331 true (wrap64 (x15_1 + 1)))) else (wigwagref09_Lost.l0 kj8 l0 a1 a2 a3 x11_1 y339 x13_1 x14_1 (wrap64 (x15_1 + 1))))) else (none)) else (none)) else (none)) = some (r1, r2, r3) := by rw [if_neg (show ¬ (false = true) by decide)] at H; exact H
                clear H
                have H := H1
                clear H1
                by_cases c18 : 0 ≤ x15_1
                · rw [if_pos c18] at H
                  have c18b0 : decide (0 ≤ x15_1) = true := decide_eq_true c18
                  clear c18
                  by_cases c19 : x15_1 < (l0.length : Int)
                  · rw [if_pos c19] at H
                    have c19b0 : decide (x15_1 < (l0.length : Int)) = true := decide_eq_true c19
                    clear c19
                    by_cases c20 : x12_1.length < 4398046511104
                    · rw [if_pos c20] at H
                      have LMc20 := Aside0.mk c20
                      clear c20
                      obtain ⟨y339, hy339⟩ : ∃ y_ : List (S37), y_ = (x12_1 ++ [(⟨(rd_T37 l0 x15_1).f0, (rd_T37 l0 x15_1).f1, (rd_T37 l0 x15_1).f2, (rd_T37 l0 x15_1).f3⟩ : S37)]) := ⟨_, rfl⟩
                      replace H : (if (decide (t329 < a1)) = true then (if x14_1 = true then (if t331 < x13_1 then (wigwagref09_Lost.l0 kj8 l0 a1 a2 a3 x11_1 y339 t331 true (wrap64 (x15_1 + 1))) else (wigwagref09_Lost.l0 kj8 l0 a1 a2 a3 x11_1 y339 x13_1 x14_1 (wrap64 (x15_1 + 1)))) else (wigwagref09_Lost.l0 kj8 l0 a1 a2 a3 x11_1 y339 t331 true (wrap64 (x15_1 + 1)))) else (wigwagref09_Lost.l0 kj8 l0 a1 a2 a3 x11_1 y339 x13_1 x14_1 (wrap64 (x15_1 + 1)))) = some (r1, r2, r3) := by first | (rw [hy339]; with_reducible exact H) | (have H2_ := (Option.bind_some _ _).symm.trans H; rw [hy339]; with_reducible exact H2_) | (have H2_ := (Option.bind_some _ _).symm.trans H; with_reducible exact H2_) | with_reducible exact H | (rw [hy339]; exact H) | exact H
                      have Ny339 := Aside0.mk hy339
                      clear hy339
                      have HS21 := Aside0.mk H
                      clear H
                      have p338 : 0 ≤ (x15_1 : Int) := of_decide_eq_true (by first | (with_reducible assumption) | assumption)
                      have q338 : x15_1 < (l0.length : Int) := of_decide_eq_true (by first | (with_reducible assumption) | assumption)
                      obtain ⟨ad338, e338, hx338_0, hx338_1, hx338_2, hx338_3⟩ := at_T37 HR0.out x15_1 p338 q338
                      obtain rfl : ad328 = ad338 := (by injection e338)
                      replace hx338_0 := (HB.out.cell (World.block_lt_of_cell? w _ hx338_0)).trans hx338_0
                      replace hx338_1 := (HB.out.cell (World.block_lt_of_cell? w _ hx338_1)).trans hx338_1
                      replace hx338_2 := (HB.out.cell (World.block_lt_of_cell? w _ hx338_2)).trans hx338_2
                      replace hx338_3 := (HB.out.cell (World.block_lt_of_cell? w _ hx338_3)).trans hx338_3
                      replace p338 := eq_true p338
                      replace q338 := eq_true q338
                      go_upto_region 13 with (first | ((with_reducible refine gate_builtin (b := .append) (xs := #[.tmp 62, .tmp 67]) rfl ?_); at_builtin; refine Kd.R_append k37 (w0 := w) w.heap.size rfl (.tmp 62) (.tmp 67) 22 37 (.agg #[(.int .u64 0), (.int .u64 0), (.int .u64 0), (.bool false)]) 32 rfl Try.underlying22 info37 rfl (by decide) (by omega) u12 x12_1 (⟨(rd_T37 l0 x15_1).f0, (rd_T37 l0 x15_1).f1, (rd_T37 l0 x15_1).f2, (rd_T37 l0 x15_1).f3⟩ : S37) [.int .u64 ((rd_T37 l0 x15_1).f0), .int .u64 ((rd_T37 l0 x15_1).f1), .int .u64 ((rd_T37 l0 x15_1).f2), .bool ((rd_T37 l0 x15_1).f3)] (fun k_ => some k_ ≠ (u11 : Value).ownBlock) (fun _ => False) rfl rfl ?aP (fun _ hk => hk.elim) ?aF ?aO ?aB ?aS ?aL ?_; (case aP => exact k37_mkM _ _ _ (⟨(rd_T37 l0 x15_1).f0, (rd_T37 l0 x15_1).f1, (rd_T37 l0 x15_1).f2, (rd_T37 l0 x15_1).f3⟩ : S37)); (case aB => exact (by repeat (first | (with_reducible first | exact HB.out | apply below_alloc | apply pw_below_drewN | apply below_drew1) | exact HB.out))); (case aF => exact (fun k_ hk => Kd.fresh' (Kd.R_lt (by (with_reducible repeat (first | apply Kd.R_alloc | apply Kd.R_drewN | apply Kd.R_drew)); exact HO_11.out)) k_ hk)); (case aO => exact (by (with_reducible repeat (first | apply Kd.R_alloc | apply Kd.R_drewN | apply Kd.R_drew)); exact HO_12.out)); (case aS => exact (below_size (by repeat (first | (with_reducible first | exact HB.out | apply below_alloc | apply pw_below_drewN | apply below_drew1) | exact HB.out)))); (case aL => have := LMc20.out; omega); intro v340 w22 ho hb hg hat; rw [← Ny339.out] at ho; have n0_ := Aside0.mk (Kd.R_after (ok := (fun _ => True)) (by (with_reducible repeat (first | apply Kd.R_alloc | apply Kd.R_drewN | apply Kd.R_drew)); exact Kd.R_mono HO_11.out (fun _ hk => ⟨trivial, hk⟩)) hg hat); have n1_ := Aside0.mk (hb); have n2_ := Aside0.mk (ho); clear HO_11; clear HB; clear HO_12; have HO_11 := n0_; have HB := n1_; have HO341 := n2_; clear n0_ n1_ n2_; clear ho hb hg hat))
                      (try simp only [Act.put, List.setIfInBounds_toArray, List.set_cons_zero, List.set_cons_succ])
                      have H := HS21.out
                      clear HS21
                      by_cases c23 : (decide (t329 < a1)) = true
                      · rw [if_pos c23] at H
                        have c23b0 : (decide (t329 < a1)) = true := c23
                        clear c23
                        by_cases c24 : x14_1 = true
                        · subst c24
                          have H1 : (if t331 < x13_1 then (wigwagref09_Lost.l0 kj8 l0 a1 a2 a3 x11_1 y339 t331 true (wrap64 (x15_1 + 1))) else (wigwagref09_Lost.l0 kj8 l0 a1 a2 a3 x11_1 y339 x13_1 true (wrap64 (x15_1 + 1)))) = some (r1, r2, r3) := by rw [if_pos rfl] at H; exact H
                          clear H
                          have H := H1
                          clear H1
                          by_cases c25 : t331 < x13_1
                          · rw [if_pos c25] at H
                            have c25b0 : decide (t331 < x13_1) = true := decide_eq_true c25
                            clear c25
                            have H' := Aside0.mk H
                            clear H
                            go_wp2
                            go_roundg kj8
                            case measure => have := HK1.out; have := HJ8.out; omega
                            case rel => exact ⟨(x11_1), (y339), (t331), (true), (wrap64 (x15_1 + 1)), (by first | rfl | (simp; done) | (simp [*]; done)), (by first | rfl | (simp; done) | (simp [*]; done)), (by first | rfl | (simp; done) | (simp [*]; done)), H', ⟨by have := HK1.out; have := HJ8.out; omega⟩, ⟨by (with_reducible repeat (first | apply Kd.R_alloc | apply Kd.R_drewN | apply Kd.R_drew)); exact Kd.R_mono HO_11.out (fun _ hk => hk.2)⟩, ⟨by (with_reducible repeat (first | apply Kd.R_alloc | apply Kd.R_drewN | apply Kd.R_drew)); exact HO341.out⟩, ⟨by repeat (first | (with_reducible first | exact HB.out | apply below_alloc | apply pw_below_drewN | apply below_drew1) | exact HB.out)⟩⟩
                          · rw [if_neg c25] at H
                            have c25b0 : decide (t331 < x13_1) = false := decide_eq_false c25
                            clear c25
                            have H' := Aside0.mk H
                            clear H
                            go_wp2
                            go_roundg kj8
                            case measure => have := HK1.out; have := HJ8.out; omega
                            case rel => exact ⟨(x11_1), (y339), (x13_1), (true), (wrap64 (x15_1 + 1)), (by first | rfl | (simp; done) | (simp [*]; done)), (by first | rfl | (simp; done) | (simp [*]; done)), (by first | rfl | (simp; done) | (simp [*]; done)), H', ⟨by have := HK1.out; have := HJ8.out; omega⟩, ⟨by (with_reducible repeat (first | apply Kd.R_alloc | apply Kd.R_drewN | apply Kd.R_drew)); exact Kd.R_mono HO_11.out (fun _ hk => hk.2)⟩, ⟨by (with_reducible repeat (first | apply Kd.R_alloc | apply Kd.R_drewN | apply Kd.R_drew)); exact HO341.out⟩, ⟨by repeat (first | (with_reducible first | exact HB.out | apply below_alloc | apply pw_below_drewN | apply below_drew1) | exact HB.out)⟩⟩
                        · replace c24 := Bool.eq_false_iff.mpr c24
                          subst c24
                          have H1 : (wigwagref09_Lost.l0 kj8 l0 a1 a2 a3 x11_1 y339 t331 true (wrap64 (x15_1 + 1))) = some (r1, r2, r3) := by rw [if_neg (show ¬ (false = true) by decide)] at H; exact H
                          clear H
                          have H := H1
                          clear H1
                          have H' := Aside0.mk H
                          clear H
                          go_wp2
                          go_roundg kj8
                          case measure => have := HK1.out; have := HJ8.out; omega
                          case rel => exact ⟨(x11_1), (y339), (t331), (true), (wrap64 (x15_1 + 1)), (by first | rfl | (simp; done) | (simp [*]; done)), (by first | rfl | (simp; done) | (simp [*]; done)), (by first | rfl | (simp; done) | (simp [*]; done)), H', ⟨by have := HK1.out; have := HJ8.out; omega⟩, ⟨by (with_reducible repeat (first | apply Kd.R_alloc | apply Kd.R_drewN | apply Kd.R_drew)); exact Kd.R_mono HO_11.out (fun _ hk => hk.2)⟩, ⟨by (with_reducible repeat (first | apply Kd.R_alloc | apply Kd.R_drewN | apply Kd.R_drew)); exact HO341.out⟩, ⟨by repeat (first | (with_reducible first | exact HB.out | apply below_alloc | apply pw_below_drewN | apply below_drew1) | exact HB.out)⟩⟩
                      · rw [if_neg c23] at H
                        have c23b0 : (decide (t329 < a1)) = false := by simpa using c23
                        clear c23
                        have H' := Aside0.mk H
                        clear H
                        go_wp2
                        go_roundg kj8
                        case measure => have := HK1.out; have := HJ8.out; omega
                        case rel => exact ⟨(x11_1), (y339), (x13_1), (x14_1), (wrap64 (x15_1 + 1)), (by first | rfl | (simp; done) | (simp [*]; done)), (by first | rfl | (simp; done) | (simp [*]; done)), (by first | rfl | (simp; done) | (simp [*]; done)), H', ⟨by have := HK1.out; have := HJ8.out; omega⟩, ⟨by (with_reducible repeat (first | apply Kd.R_alloc | apply Kd.R_drewN | apply Kd.R_drew)); exact Kd.R_mono HO_11.out (fun _ hk => hk.2)⟩, ⟨by (with_reducible repeat (first | apply Kd.R_alloc | apply Kd.R_drewN | apply Kd.R_drew)); exact HO341.out⟩, ⟨by repeat (first | (with_reducible first | exact HB.out | apply below_alloc | apply pw_below_drewN | apply below_drew1) | exact HB.out)⟩⟩
                    · rw [if_neg c20] at H
                      exact absurd H (by simp)
                  · rw [if_neg c19] at H
                    exact absurd H (by simp)
                · rw [if_neg c18] at H
                  exact absurd H (by simp)
        · rw [if_neg c6] at H
          exact absurd H (by simp)
      · rw [if_neg c5] at H
        have c5b0 : decide (x15_1 < (l0.length : Int)) = false := decide_eq_false c5
        clear c5
        simp only [Option.some.injEq, Prod.mk.injEq] at H
        obtain ⟨rfl, rfl, rfl⟩ := H
        go_wp2
        go_ret3
        exact ⟨_, _, by first | rfl | (simp [errW_none, errW_some] <;> rfl) | (simp [*, errW_none, errW_some] <;> rfl), by (with_reducible repeat (first | apply Kd.R_alloc | apply Kd.R_drewN | apply Kd.R_drew)); exact HO_11.out, by (with_reducible repeat (first | apply Kd.R_alloc | apply Kd.R_drewN | apply Kd.R_drew)); exact HO_12.out, by repeat (first | (with_reducible first | exact HB.out | apply below_alloc | apply pw_below_drewN | apply below_drew1) | exact HB.out)⟩

end Go.Proofs.Ytfgmikhlplbmeaa.P
