-- Printed for this claim by xprint.py of this session: contracts of this session's own stand in for what the print does not take
import Derived.Test.YtmnpgcpejfkaaaaPx0
import Derived.Test.YtmnpgcpejfkaaaaPx3
import Derived.Test.YtmnpgcpejfkaaaaPx5
import Derived.Test.YtmnpgcpejfkaaaaPx11
namespace Go.Proofs.Ytmnpgcpejfkaaaa.P
open Go.RowKit Go.Proofs.YtmnpgcpejfkaaaaW.PrintWords Go.Proofs.YtmnpgcpejfkaaaaW.PrintLast Go.Proofs.YtmnpgcpejfkaaaaW.PrintMore
attribute [local go_sem] max2_int min2_int max_two min_two max_three min_three max_four min_four   -- for this text's walks alone
set_option linter.unusedVariables false
set_option linter.unusedSimpArgs false

/-! ### wigwaglaw02_FiltWindows: function 4 -/
mutual
def wigwaglaw02_FiltWindows.l0 : Nat → List Int → List Int → Int → Bool → List (S25) → List (S25) → List (S25) → Int → Int → Option (Bool)
  | 0, _, _, _, _, _, _, _, _, _ => none
  | k + 1, x0, x1, x2, x7, x8, x9, x10, x11, x12 => if x12 < (x0.length : Int) then (wigwaglaw02_FiltWindows.j1 k x0 x1 x2 x7 x8 x9 x10 x11 x12 (decide (x12 < (x1.length : Int)))) else (wigwaglaw02_FiltWindows.j1 k x0 x1 x2 x7 x8 x9 x10 x11 x12 false)
def wigwaglaw02_FiltWindows.j1 : Nat → List Int → List Int → Int → Bool → List (S25) → List (S25) → List (S25) → Int → Int → Bool → Option (Bool)
  | 0, _, _, _, _, _, _, _, _, _, _ => none
  | k + 1, x0, x1, x2, x7, x8, x9, x10, x11, x12, x31 => if x31 = true then (if 0 ≤ x12 then (if x12 < (x0.length : Int) then (if x12 < (x1.length : Int) then (if x8.length < 8796093022208 then ((filt_PushMax.f k x9 x2 (IntKind.u64.wrap (x11 + (IntKind.u64.wrap (rd x0 x12)))) (rd x1 x12)).bind fun t268 => ((filt_PushMin.f k x10 x2 (IntKind.u64.wrap (x11 + (IntKind.u64.wrap (rd x0 x12)))) (rd x1 x12)).bind fun t271 => (wigwaglaw02_FiltWindows.l1 k x0 x1 x2 x7 (x8 ++ [(⟨IntKind.u64.wrap (x11 + (IntKind.u64.wrap (rd x0 x12))), rd x1 x12⟩ : S25)]) t268 t271 (IntKind.u64.wrap (x11 + (IntKind.u64.wrap (rd x0 x12)))) x12 (rd x1 x12) (rd x1 x12) 0))) else (none)) else (none)) else (none)) else (none)) else (some x7)
def wigwaglaw02_FiltWindows.l1 : Nat → List Int → List Int → Int → Bool → List (S25) → List (S25) → List (S25) → Int → Int → Int → Int → Int → Option (Bool)
  | 0, _, _, _, _, _, _, _, _, _, _, _, _ => none
  | k + 1, x0, x1, x2, x7, x8, x9, x10, x11, x12, x14, x15, x16 => if x16 < (x8.length : Int) then (if 0 ≤ x16 then ((wigwagref01_Add.f ((rd_T25 x8 x16).f0) x2).bind fun t277 => (if t277 ≥ x11 then (wigwaglaw02_FiltWindows.l1 k x0 x1 x2 x7 x8 x9 x10 x11 x12 (mx x14 ((rd_T25 x8 x16).f1)) (mn x15 ((rd_T25 x8 x16).f1)) (wrap64 (x16 + 1))) else (wigwaglaw02_FiltWindows.l1 k x0 x1 x2 x7 x8 x9 x10 x11 x12 x14 x15 (wrap64 (x16 + 1))))) else (none)) else ((filt_Best.f x9).bind fun t280 => (if t280 = x14 then ((filt_Best.f x10).bind fun t281 => (if t281 = x15 then (wigwaglaw02_FiltWindows.l0 k x0 x1 x2 x7 x8 x9 x10 x11 (wrap64 (x12 + 1))) else (some false))) else (some false)))
end
def wigwaglaw02_FiltWindows.f (k : Nat) (l0 : List Int) (l1 : List Int) (a2 : Int) : Option (Bool) := (wigwaglaw02_awake.f k).bind fun t261 => (if (l0.length : Int) > 100 then (some t261) else (wigwaglaw02_FiltWindows.l0 k l0 l1 a2 t261 ([] : List (S25)) ([] : List (S25)) ([] : List (S25)) 0 0))
theorem wigwaglaw02_FiltWindows.mono_l : ∀ k, (∀ y0 y1 y2 y3 y4 y5 y6 y7 y8, LeO (wigwaglaw02_FiltWindows.l0 k y0 y1 y2 y3 y4 y5 y6 y7 y8) (wigwaglaw02_FiltWindows.l0 (k + 1) y0 y1 y2 y3 y4 y5 y6 y7 y8)) ∧ (∀ y0 y1 y2 y3 y4 y5 y6 y7 y8 y9, LeO (wigwaglaw02_FiltWindows.j1 k y0 y1 y2 y3 y4 y5 y6 y7 y8 y9) (wigwaglaw02_FiltWindows.j1 (k + 1) y0 y1 y2 y3 y4 y5 y6 y7 y8 y9)) ∧ (∀ y0 y1 y2 y3 y4 y5 y6 y7 y8 y9 y10 y11, LeO (wigwaglaw02_FiltWindows.l1 k y0 y1 y2 y3 y4 y5 y6 y7 y8 y9 y10 y11) (wigwaglaw02_FiltWindows.l1 (k + 1) y0 y1 y2 y3 y4 y5 y6 y7 y8 y9 y10 y11))
  | 0 => ⟨fun _ _ _ _ _ _ _ _ _ r h => by simp [wigwaglaw02_FiltWindows.l0] at h, fun _ _ _ _ _ _ _ _ _ _ r h => by simp [wigwaglaw02_FiltWindows.j1] at h, fun _ _ _ _ _ _ _ _ _ _ _ _ r h => by simp [wigwaglaw02_FiltWindows.l1] at h⟩
  | k + 1 => by
    obtain ⟨ih0, ih1, ih2⟩ := wigwaglaw02_FiltWindows.mono_l k
    refine ⟨?_, ?_, ?_⟩
    · intro y0 y1 y2 y3 y4 y5 y6 y7 y8
      unfold wigwaglaw02_FiltWindows.l0
      repeat' first
      | (with_reducible exact ih0 _ _ _ _ _ _ _ _ _)
      | (with_reducible exact ih1 _ _ _ _ _ _ _ _ _ _)
      | (with_reducible exact ih2 _ _ _ _ _ _ _ _ _ _ _ _)
      | (with_reducible exact filt_PushMax.mono _ _ _ _ _)
      | (with_reducible exact filt_PushMin.mono _ _ _ _ _)
      | (with_reducible exact wigwaglaw02_awake.mono _)
      | (with_reducible exact LeO.refl _)
      | (with_reducible exact LeO.none _)
      | (with_reducible refine LeO.ite ?_ ?_)
      | (with_reducible refine LeO.bind ?_ (fun _ => ?_))
      | exact ih0 _ _ _ _ _ _ _ _ _
      | exact ih1 _ _ _ _ _ _ _ _ _ _
      | exact ih2 _ _ _ _ _ _ _ _ _ _ _ _
      | exact filt_PushMax.mono _ _ _ _ _
      | exact filt_PushMin.mono _ _ _ _ _
      | exact wigwaglaw02_awake.mono _
      | exact LeO.none _
      | refine LeO.ite ?_ ?_
      | refine LeO.bind ?_ (fun _ => ?_)
    · intro y0 y1 y2 y3 y4 y5 y6 y7 y8 y9
      unfold wigwaglaw02_FiltWindows.j1
      repeat' first
      | (with_reducible exact ih0 _ _ _ _ _ _ _ _ _)
      | (with_reducible exact ih1 _ _ _ _ _ _ _ _ _ _)
      | (with_reducible exact ih2 _ _ _ _ _ _ _ _ _ _ _ _)
      | (with_reducible exact filt_PushMax.mono _ _ _ _ _)
      | (with_reducible exact filt_PushMin.mono _ _ _ _ _)
      | (with_reducible exact wigwaglaw02_awake.mono _)
      | (with_reducible exact LeO.refl _)
      | (with_reducible exact LeO.none _)
      | (with_reducible refine LeO.ite ?_ ?_)
      | (with_reducible refine LeO.bind ?_ (fun _ => ?_))
      | exact ih0 _ _ _ _ _ _ _ _ _
      | exact ih1 _ _ _ _ _ _ _ _ _ _
      | exact ih2 _ _ _ _ _ _ _ _ _ _ _ _
      | exact filt_PushMax.mono _ _ _ _ _
      | exact filt_PushMin.mono _ _ _ _ _
      | exact wigwaglaw02_awake.mono _
      | exact LeO.none _
      | refine LeO.ite ?_ ?_
      | refine LeO.bind ?_ (fun _ => ?_)
    · intro y0 y1 y2 y3 y4 y5 y6 y7 y8 y9 y10 y11
      unfold wigwaglaw02_FiltWindows.l1
      repeat' first
      | (with_reducible exact ih0 _ _ _ _ _ _ _ _ _)
      | (with_reducible exact ih1 _ _ _ _ _ _ _ _ _ _)
      | (with_reducible exact ih2 _ _ _ _ _ _ _ _ _ _ _ _)
      | (with_reducible exact filt_PushMax.mono _ _ _ _ _)
      | (with_reducible exact filt_PushMin.mono _ _ _ _ _)
      | (with_reducible exact wigwaglaw02_awake.mono _)
      | (with_reducible exact LeO.refl _)
      | (with_reducible exact LeO.none _)
      | (with_reducible refine LeO.ite ?_ ?_)
      | (with_reducible refine LeO.bind ?_ (fun _ => ?_))
      | exact ih0 _ _ _ _ _ _ _ _ _
      | exact ih1 _ _ _ _ _ _ _ _ _ _
      | exact ih2 _ _ _ _ _ _ _ _ _ _ _ _
      | exact filt_PushMax.mono _ _ _ _ _
      | exact filt_PushMin.mono _ _ _ _ _
      | exact wigwaglaw02_awake.mono _
      | exact LeO.none _
      | refine LeO.ite ?_ ?_
      | refine LeO.bind ?_ (fun _ => ?_)
theorem wigwaglaw02_FiltWindows.mono : ∀ a0 a1 a2 k, LeO (wigwaglaw02_FiltWindows.f k a0 a1 a2) (wigwaglaw02_FiltWindows.f (k + 1) a0 a1 a2) := by
  intro a0 a1 a2 k
  obtain ⟨ih0, ih1, ih2⟩ := wigwaglaw02_FiltWindows.mono_l k
  unfold wigwaglaw02_FiltWindows.f
  repeat' first
      | (with_reducible exact ih0 _ _ _ _ _ _ _ _ _)
      | (with_reducible exact ih1 _ _ _ _ _ _ _ _ _ _)
      | (with_reducible exact ih2 _ _ _ _ _ _ _ _ _ _ _ _)
      | (with_reducible exact filt_PushMax.mono _ _ _ _ _)
      | (with_reducible exact filt_PushMin.mono _ _ _ _ _)
      | (with_reducible exact wigwaglaw02_awake.mono _)
      | (with_reducible exact LeO.refl _)
      | (with_reducible exact LeO.none _)
      | (with_reducible refine LeO.ite ?_ ?_)
      | (with_reducible refine LeO.bind ?_ (fun _ => ?_))
      | exact ih0 _ _ _ _ _ _ _ _ _
      | exact ih1 _ _ _ _ _ _ _ _ _ _
      | exact ih2 _ _ _ _ _ _ _ _ _ _ _ _
      | exact filt_PushMax.mono _ _ _ _ _
      | exact filt_PushMin.mono _ _ _ _ _
      | exact wigwaglaw02_awake.mono _
      | exact LeO.none _
      | refine LeO.ite ?_ ?_
      | refine LeO.bind ?_ (fun _ => ?_)
set_option maxHeartbeats 8000000 in
set_option maxRecDepth 100000 in
theorem wigwaglaw02_FiltWindows.calls (k : Nat) (A0 : Option Addr) (c0 : Nat) (l0 : List Int) (A1 : Option Addr) (c1 : Nat) (l1 : List Int) (a2 : Int) (r : Bool) (w : World) (hr0 : Kd.C (Kd.int .u16) w A0 l0.length l0) (hc0 : l0.length ≤ c0) (hr1 : Kd.C (Kd.int .u64) w A1 l1.length l1) (hc1 : l1.length ≤ c1) (h : wigwaglaw02_FiltWindows.f k l0 l1 a2 = some r) :
    Calls Try.prog 4 #[.slice A0 l0.length c0, .slice A1 l1.length c1, .int .u64 a2] w fun e w' => e = .returned (.bool r) ∧ Below w.heap.size w w' := by
  have hu25 := Try.underlying25
  have HR0 := Aside0.mk hr0
  have HC0 := Aside0.mk hc0
  clear hr0 hc0
  have HR1 := Aside0.mk hr1
  have HC1 := Aside0.mk hc1
  clear hr1 hc1
  have HB := Aside0.mk (Below.refl w.heap.size w)
  have H : ((wigwaglaw02_awake.f k).bind fun t261 => (if (l0.length : Int) > 100 then (some t261) else (wigwaglaw02_FiltWindows.l0 k l0 l1 a2 t261 ([] : List (S25)) ([] : List (S25)) ([] : List (S25)) 0 0))) = some r := h
  clear h
  replace H := Option.bind_eq_some_iff.mp H
  obtain ⟨t261, A40, H⟩ := H
  replace H : (if (l0.length : Int) > 100 then (some t261) else (wigwaglaw02_FiltWindows.l0 k l0 l1 a2 t261 ([] : List (S25)) ([] : List (S25)) ([] : List (S25)) 0 0)) = some r := H
  have A4 := Aside0.mk A40
  clear A40
  by_cases c5 : (l0.length : Int) > 100
  · rw [if_pos c5] at H
    have c5b0 : decide (100 < (l0.length : Int)) = true := decide_eq_true c5
    have c5b1 : decide (100 < l0.length) = true := decide_eq_true (by omega)
    clear c5
    obtain rfl := Option.some.inj H
    go_enter Try.func4, Try.ntmps4
    go_wp2_with (first | ((with_reducible refine gate_callee (f := 8) rfl ?_); refine goesL_ (some 17) rfl rfl Try.func8 (by kernel_rfl) rfl #[] rfl (by (try simp only [List.map_toArray, List.map_cons, List.map_nil]); first | done | rfl | (simp only [List.length_drop, List.length_take]; rfl)) ?_; (with_reducible refine (wigwaglaw02_awake.calls k  t261 _ A4.out).mono ?_); rintro e w6 ⟨rfl, hb⟩; refine ⟨_, rfl, ?_⟩; have n0_ := Aside0.mk (below_step (by repeat (first | (with_reducible first | exact HB.out | apply below_alloc | apply pw_below_drewN | apply below_drew1) | exact HB.out)) hb); clear HB; have HB := n0_; clear n0_; (try clear hb); (try clear hb2); (try clear hk); (try clear hi)))
    go_ret
    exact ⟨by first | rfl | (simp [errW_none, errW_some] <;> rfl) | (simp [*, errW_none, errW_some] <;> rfl), by repeat (first | (with_reducible first | exact HB.out | apply below_alloc | apply pw_below_drewN | apply below_drew1) | exact HB.out)⟩
  · rw [if_neg c5] at H
    have c5b0 : decide (100 < (l0.length : Int)) = false := decide_eq_false c5
    have c5b1 : decide (100 < l0.length) = false := decide_eq_false (by omega)
    clear c5
    have H' := Aside0.mk H
    clear H
    go_enter Try.func4, Try.ntmps4
    go_wp2_with (first | ((with_reducible refine gate_callee (f := 8) rfl ?_); refine goesL_ (some 17) rfl rfl Try.func8 (by kernel_rfl) rfl #[] rfl (by (try simp only [List.map_toArray, List.map_cons, List.map_nil]); first | done | rfl | (simp only [List.length_drop, List.length_take]; rfl)) ?_; (with_reducible refine (wigwaglaw02_awake.calls k  t261 _ A4.out).mono ?_); rintro e w7 ⟨rfl, hb⟩; refine ⟨_, rfl, ?_⟩; have n0_ := Aside0.mk (below_step (by repeat (first | (with_reducible first | exact HB.out | apply below_alloc | apply pw_below_drewN | apply below_drew1) | exact HB.out)) hb); clear HB; have HB := n0_; clear n0_; (try clear hb); (try clear hb2); (try clear hk); (try clear hi)))
    go_loopg [8, 9, 10, 11, 12] k (fun kq v8 v9 v10 v11 v12 w' => ∃ (x8_1 : List (S25)) (x9_1 : List (S25)) (x10_1 : List (S25)) (x11_1 : Int) (x12_1 : Int), v11 = .int .u64 x11_1 ∧ v12 = .int .i64 x12_1 ∧ Aside0 (wigwaglaw02_FiltWindows.l0 kq l0 l1 a2 t261 x8_1 x9_1 x10_1 x11_1 x12_1 = some r) ∧ Aside0 (kq ≤ k) ∧ Aside0 (Kd.R k25 25 w' w.heap.size (fun k_ => some k_ ≠ (v9 : Value).ownBlock ∧ some k_ ≠ (v10 : Value).ownBlock) v8 x8_1) ∧ Aside0 (Kd.R k25 25 w' w.heap.size (fun k_ => some k_ ≠ (v8 : Value).ownBlock ∧ some k_ ≠ (v10 : Value).ownBlock) v9 x9_1) ∧ Aside0 (Kd.R k25 25 w' w.heap.size (fun k_ => some k_ ≠ (v8 : Value).ownBlock ∧ some k_ ≠ (v9 : Value).ownBlock) v10 x10_1) ∧ Aside0 (Below w.heap.size w w'))
    case atStart => exact ⟨(([] : List (S25))), (([] : List (S25))), (([] : List (S25))), (0), (0), (by first | rfl | (simp; done) | (simp [*]; done)), (by first | rfl | (simp; done) | (simp [*]; done)), H', ⟨Nat.le_refl _⟩, ⟨by first | exact Kd.R_nil _ _ _ _ _ | exact Kd.N_nil _ _ _ _ _ | exact Kd.V_nil _ _ _ _ _ | exact Kd.Q_nil _ _ _ _ _ | exact Kd.S_nil _ _ _ _ _⟩, ⟨by first | exact Kd.R_nil _ _ _ _ _ | exact Kd.N_nil _ _ _ _ _ | exact Kd.V_nil _ _ _ _ _ | exact Kd.Q_nil _ _ _ _ _ | exact Kd.S_nil _ _ _ _ _⟩, ⟨by first | exact Kd.R_nil _ _ _ _ _ | exact Kd.N_nil _ _ _ _ _ | exact Kd.V_nil _ _ _ _ _ | exact Kd.Q_nil _ _ _ _ _ | exact Kd.S_nil _ _ _ _ _⟩, ⟨by repeat (first | (with_reducible first | exact HB.out | apply below_alloc | apply pw_below_drewN | apply below_drew1) | exact HB.out)⟩⟩
    case round =>
      clear H'
      try clear c1
      try clear p2
      try clear c4
      try clear c5
      try clear c5b0
      try clear c5b1
      obtain ⟨x8_1, x9_1, x10_1, x11_1, x12_1, rfl, rfl, HA, HK1, HO_8, HO_9, HO_10, HB⟩ := hrel
      cases gk with
      | zero => exact absurd HA.out (by simp [wigwaglaw02_FiltWindows.l0])
      | succ k1 =>
        have H := HA.out
        clear HA
        simp only [wigwaglaw02_FiltWindows.l0] at H
        have HC8 := Aside0.mk H
        clear H
        go_upto_region 9 with (fail)
        go_cut [31] (fun v31 wc => ∃ (kq : Nat) (x31_7 : Bool), v31 = .bool x31_7 ∧ Aside0 (wigwaglaw02_FiltWindows.j1 kq l0 l1 a2 t261 x8_1 x9_1 x10_1 x11_1 x12_1 x31_7 = some r) ∧ Aside0 (kq ≤ k1) ∧ Aside0 (Kd.R k25 25 wc w.heap.size (fun k_ => some k_ ≠ (u9 : Value).ownBlock ∧ some k_ ≠ (u10 : Value).ownBlock) u8 x8_1) ∧ Aside0 (Kd.R k25 25 wc w.heap.size (fun k_ => some k_ ≠ (u8 : Value).ownBlock ∧ some k_ ≠ (u10 : Value).ownBlock) u9 x9_1) ∧ Aside0 (Kd.R k25 25 wc w.heap.size (fun k_ => some k_ ≠ (u8 : Value).ownBlock ∧ some k_ ≠ (u9 : Value).ownBlock) u10 x10_1) ∧ Aside0 (Below w.heap.size w wc))
        case first =>
          have H := HC8.out
          clear HC8
          by_cases c9 : x12_1 < (l0.length : Int)
          · rw [if_pos c9] at H
            have c9b0 : decide (x12_1 < (l0.length : Int)) = true := decide_eq_true c9
            clear c9
            (first | rw [c9b0] | (simp only [i64_w, i32_w]; rw [c9b0]) | skip)
            have H' := Aside0.mk H
            clear H
            go_wp2
            go_meet
            case rel => exact ⟨_, (decide (x12_1 < (l1.length : Int))), (by first | rfl | (simp; done) | (simp [*]; done)), H', ⟨by have := HK1.out; first | omega | exact Nat.le_refl _⟩, ⟨by (with_reducible repeat (first | apply Kd.R_alloc | apply Kd.R_drewN | apply Kd.R_drew)); exact HO_8.out⟩, ⟨by (with_reducible repeat (first | apply Kd.R_alloc | apply Kd.R_drewN | apply Kd.R_drew)); exact HO_9.out⟩, ⟨by (with_reducible repeat (first | apply Kd.R_alloc | apply Kd.R_drewN | apply Kd.R_drew)); exact HO_10.out⟩, ⟨by repeat (first | (with_reducible first | exact HB.out | apply below_alloc | apply pw_below_drewN | apply below_drew1) | exact HB.out)⟩⟩
          · rw [if_neg c9] at H
            have c9b0 : decide (x12_1 < (l0.length : Int)) = false := decide_eq_false c9
            clear c9
            (first | rw [c9b0] | (simp only [i64_w, i32_w]; rw [c9b0]) | skip)
            have H' := Aside0.mk H
            clear H
            go_wp2
            go_meet
            case rel => exact ⟨_, (false), (by first | rfl | (simp; done) | (simp [*]; done)), H', ⟨by have := HK1.out; first | omega | exact Nat.le_refl _⟩, ⟨by (with_reducible repeat (first | apply Kd.R_alloc | apply Kd.R_drewN | apply Kd.R_drew)); exact HO_8.out⟩, ⟨by (with_reducible repeat (first | apply Kd.R_alloc | apply Kd.R_drewN | apply Kd.R_drew)); exact HO_9.out⟩, ⟨by (with_reducible repeat (first | apply Kd.R_alloc | apply Kd.R_drewN | apply Kd.R_drew)); exact HO_10.out⟩, ⟨by repeat (first | (with_reducible first | exact HB.out | apply below_alloc | apply pw_below_drewN | apply below_drew1) | exact HB.out)⟩⟩
        case rest =>
          clear HC8
          try clear c1
          try clear p2
          try clear c4
          try clear c5
          try clear c5b0
          try clear c5b1
          try clear c8
          try clear c9
          try clear c9b0
          try clear p2
          obtain ⟨kq, x31_7, rfl, HA, HJ7, HO_8, HO_9, HO_10, HB⟩ := hcut
          cases kq with
          | zero => exact absurd HA.out (by simp [wigwaglaw02_FiltWindows.j1])
          | succ kj7 =>
            have H := HA.out
            clear HA
            simp only [wigwaglaw02_FiltWindows.j1] at H
            by_cases c10 : x31_7 = true
            · subst c10
              have H1 : (if 0 ≤ x12_1 then (if x12_1 < (l0.length : Int) then (if x12_1 < (l1.length : Int) then (if x8_1.length < 8796093022208 then ((filt_PushMax.f kj7 x9_1 a2 (IntKind.u64.wrap (x11_1 + (IntKind.u64.wrap (rd l0 x12_1)))) (rd l1 x12_1)).bind fun t268 => ((filt_PushMin.f kj7 x10_1 a2 (IntKind.u64.wrap (x11_1 + (IntKind.u64.wrap (rd l0 x12_1)))) (rd l1 x12_1)).bind fun t271 => (wigwaglaw02_FiltWindows.l1 kj7 l0 l1 a2 t261 (x8_1 ++ [(⟨IntKind.u64.wrap (x11_1 + (IntKind.u64.wrap (rd l0 x12_1))), rd l1 x12_1⟩ : S25)]) t268 t271 (IntKind.u64.wrap (x11_1 + (IntKind.u64.wrap (rd l0 x12_1)))) x12_1 (rd l1 x12_1) (rd l1 x12_1) 0))) else (none)) else (none)) else (none)) else (none)) = some r := by rw [if_pos rfl] at H; exact H
              clear H
              have H := H1
              clear H1
              by_cases c11 : 0 ≤ x12_1
              · rw [if_pos c11] at H
                have c11b0 : decide (0 ≤ x12_1) = true := decide_eq_true c11
                clear c11
                by_cases c12 : x12_1 < (l0.length : Int)
                · rw [if_pos c12] at H
                  have c12b0 : decide (x12_1 < (l0.length : Int)) = true := decide_eq_true c12
                  clear c12
                  by_cases c13 : x12_1 < (l1.length : Int)
                  · rw [if_pos c13] at H
                    have c13b0 : decide (x12_1 < (l1.length : Int)) = true := decide_eq_true c13
                    clear c13
                    by_cases c14 : x8_1.length < 8796093022208
                    · rw [if_pos c14] at H
                      have LMc14 := Aside0.mk c14
                      clear c14
                      obtain ⟨y265, hy265⟩ : ∃ y_ : List (S25), y_ = (x8_1 ++ [(⟨IntKind.u64.wrap (x11_1 + (IntKind.u64.wrap (rd l0 x12_1))), rd l1 x12_1⟩ : S25)]) := ⟨_, rfl⟩
                      replace H : ((filt_PushMax.f kj7 x9_1 a2 (IntKind.u64.wrap (x11_1 + (IntKind.u64.wrap (rd l0 x12_1)))) (rd l1 x12_1)).bind fun t268 => ((filt_PushMin.f kj7 x10_1 a2 (IntKind.u64.wrap (x11_1 + (IntKind.u64.wrap (rd l0 x12_1)))) (rd l1 x12_1)).bind fun t271 => (wigwaglaw02_FiltWindows.l1 kj7 l0 l1 a2 t261 y265 t268 t271 (IntKind.u64.wrap (x11_1 + (IntKind.u64.wrap (rd l0 x12_1)))) x12_1 (rd l1 x12_1) (rd l1 x12_1) 0))) = some r := by first | (rw [hy265]; with_reducible exact H) | (have H2_ := (Option.bind_some _ _).symm.trans H; rw [hy265]; with_reducible exact H2_) | (have H2_ := (Option.bind_some _ _).symm.trans H; with_reducible exact H2_) | with_reducible exact H | (rw [hy265]; exact H) | exact H
                      have Ny265 := Aside0.mk hy265
                      clear hy265
                      replace H := Option.bind_eq_some_iff.mp H
                      obtain ⟨t268, A150, H⟩ := H
                      replace H : ((filt_PushMin.f kj7 x10_1 a2 (IntKind.u64.wrap (x11_1 + (IntKind.u64.wrap (rd l0 x12_1)))) (rd l1 x12_1)).bind fun t271 => (wigwaglaw02_FiltWindows.l1 kj7 l0 l1 a2 t261 y265 t268 t271 (IntKind.u64.wrap (x11_1 + (IntKind.u64.wrap (rd l0 x12_1)))) x12_1 (rd l1 x12_1) (rd l1 x12_1) 0)) = some r := H
                      have A15 := Aside0.mk A150
                      clear A150
                      replace H := Option.bind_eq_some_iff.mp H
                      obtain ⟨t271, A160, H⟩ := H
                      replace H : (wigwaglaw02_FiltWindows.l1 kj7 l0 l1 a2 t261 y265 t268 t271 (IntKind.u64.wrap (x11_1 + (IntKind.u64.wrap (rd l0 x12_1)))) x12_1 (rd l1 x12_1) (rd l1 x12_1) 0) = some r := H
                      have A16 := Aside0.mk A160
                      clear A160
                      have H' := Aside0.mk H
                      clear H
                      have p262 : 0 ≤ (x12_1 : Int) := of_decide_eq_true (by first | (with_reducible assumption) | assumption)
                      have q262 : x12_1 < (l0.length : Int) := of_decide_eq_true (by first | (with_reducible assumption) | assumption)
                      obtain ⟨ad262, e262, hx262_0⟩ := Kd.at_int HR0.out x12_1 p262 q262
                      cases e262
                      replace hx262_0 := (HB.out.cell (World.block_lt_of_cell? w _ hx262_0)).trans hx262_0
                      replace p262 := eq_true p262
                      replace q262 := eq_true q262
                      have p263 : 0 ≤ (x12_1 : Int) := of_decide_eq_true (by first | (with_reducible assumption) | assumption)
                      have q263 : x12_1 < (l1.length : Int) := of_decide_eq_true (by first | (with_reducible assumption) | assumption)
                      obtain ⟨ad263, e263, hx263_0⟩ := Kd.at_int HR1.out x12_1 p263 q263
                      cases e263
                      replace hx263_0 := (HB.out.cell (World.block_lt_of_cell? w _ hx263_0)).trans hx263_0
                      replace p263 := eq_true p263
                      replace q263 := eq_true q263
                      go_wp2_with (first | ((with_reducible refine gate_dst (N := 13) rfl ?_); (try (refine gate_guard (by rfl) ?_; dsimp only)); refine box_event ?hg (N := 13) ?hd (cs := #[.int .u64 0, .int .u64 0]) (t := 25) ?hr ?_; (case hd => rfl); (case hg => rfl); (case hr => first | (go_simp; done) | (go_simp; rfl)); intro gb264 hg w17 hbox hb; have n0_ := Aside0.mk (Kd.R_below (Kd.R_elderB (by (with_reducible repeat (first | apply Kd.R_alloc | apply Kd.R_drewN | apply Kd.R_drew)); exact HO_8.out) gb264 (Nat.le_of_eq hg.symm)) hb); have n1_ := Aside0.mk (Kd.R_below (Kd.R_elderB (by (with_reducible repeat (first | apply Kd.R_alloc | apply Kd.R_drewN | apply Kd.R_drew)); exact HO_9.out) gb264 (Nat.le_of_eq hg.symm)) hb); have n2_ := Aside0.mk (Kd.R_below (Kd.R_elderB (by (with_reducible repeat (first | apply Kd.R_alloc | apply Kd.R_drewN | apply Kd.R_drew)); exact HO_10.out) gb264 (Nat.le_of_eq hg.symm)) hb); have n3_ := Aside0.mk (below_step (by repeat (first | (with_reducible first | exact HB.out | apply below_alloc | apply pw_below_drewN | apply below_drew1) | exact HB.out)) hb); have n4_ := Aside0.mk (hbox); have n5_ := Aside0.mk ((by rw [hg]; exact (below_size (by repeat (first | (with_reducible first | exact HB.out | apply below_alloc | apply pw_below_drewN | apply below_drew1) | exact HB.out))) : w.heap.size ≤ gb264)); have n6_ := Aside0.mk ((by rw [hg]; exact (below_size (by repeat (first | (with_reducible first | exact HB.out | apply below_alloc | apply pw_below_drewN | apply below_drew1) | exact HB.out))) : w.heap.size ≤ gb264)); clear HO_8; clear HO_9; clear HO_10; clear HB; have HO_8 := n0_; have HO_9 := n1_; have HO_10 := n2_; have HB := n3_; have BK264 := n4_; have GW264 := n5_; have GE264 := n6_; clear n0_ n1_ n2_ n3_ n4_ n5_ n6_; clear hb hbox hg; have hcz18_0 : w17.cell? ⟨gb264, 0, none⟩ = some (.int .u64 0) := (blk_cell BK264.out 0).trans rfl; have hcz18_1 : w17.cell? ⟨gb264, 1, none⟩ = some (.int .u64 0) := (blk_cell BK264.out 1).trans rfl; have hfz18_0 := blk_frozen BK264.out 0; have hfz18_1 := blk_frozen BK264.out 1) | ((with_reducible refine gate_builtin (b := .append) (xs := #[.tmp 47, .tmp 49]) rfl ?_); (try (refine gate_guard (by rfl) ?_; dsimp only)); at_builtin; refine Kd.R_append k25 (w0 := w) w.heap.size rfl (.tmp 47) (.tmp 49) 22 25 (.agg #[(.int .u64 0), (.int .u64 0)]) 16 rfl Try.underlying22 info25 rfl (by decide) (by omega) u8 x8_1 (⟨IntKind.u64.wrap (x11_1 + (IntKind.u64.wrap (rd l0 x12_1))), rd l1 x12_1⟩ : S25) [.int .u64 (IntKind.u64.wrap (x11_1 + (IntKind.u64.wrap (rd l0 x12_1)))), .int .u64 (rd l1 x12_1)] (fun k_ => some k_ ≠ (u9 : Value).ownBlock ∧ some k_ ≠ (u10 : Value).ownBlock ∧ k_ ≠ gb264) (fun _ => False) rfl (by first | (go_simp; done) | (go_simp; rfl)) ?aP (fun _ hk => hk.elim) ?aF ?aO ?aB ?aS ?aL ?_; (case aP => exact k25_mkM _ _ _ (⟨IntKind.u64.wrap (x11_1 + (IntKind.u64.wrap (rd l0 x12_1))), rd l1 x12_1⟩ : S25)); (case aB => exact (by repeat (first | (with_reducible first | exact HB.out | apply below_alloc | apply pw_below_drewN | apply below_drew1 | refine below_set ?_ GE264.out) | exact HB.out))); (case aF => exact (fun k_ hk => ⟨Kd.fresh' (Kd.R_lt (by (with_reducible repeat (first | apply Kd.R_alloc | apply Kd.R_drewN | apply Kd.R_drew)); exact (Kd.R_mono (Kd.R_far (p := ⟨gb264, 1, none⟩) (Kd.R_far (p := ⟨gb264, 0, none⟩) (Kd.R_mono HO_9.out (fun k_ hk => (⟨hk, hk.2⟩ : _ ∧ k_ ≠ gb264))) (fun _ hk => hk.2) (.int .u64 (IntKind.u64.wrap (x11_1 + (IntKind.u64.wrap (rd l0 x12_1)))))) (fun _ hk => hk.2) (.int .u64 (rd l1 x12_1))) (fun _ h_ => h_.1)))) k_ hk, Kd.fresh' (Kd.R_lt (by (with_reducible repeat (first | apply Kd.R_alloc | apply Kd.R_drewN | apply Kd.R_drew)); exact (Kd.R_mono (Kd.R_far (p := ⟨gb264, 1, none⟩) (Kd.R_far (p := ⟨gb264, 0, none⟩) (Kd.R_mono HO_10.out (fun k_ hk => (⟨hk, hk.2⟩ : _ ∧ k_ ≠ gb264))) (fun _ hk => hk.2) (.int .u64 (IntKind.u64.wrap (x11_1 + (IntKind.u64.wrap (rd l0 x12_1)))))) (fun _ hk => hk.2) (.int .u64 (rd l1 x12_1))) (fun _ h_ => h_.1)))) k_ hk, Kd.freshB (g := gb264) (o := .cells #[.int .u64 (IntKind.u64.wrap (x11_1 + (IntKind.u64.wrap (rd l0 x12_1)))), .int .u64 (rd l1 x12_1)] 25 (0, 0)) (by (with_reducible repeat (first | refine blk_drewN ?_ _ | refine blk_drew ?_ | refine blk_alloc ?_ _)); refine blk_put (cs := #[.int .u64 (IntKind.u64.wrap (x11_1 + (IntKind.u64.wrap (rd l0 x12_1)))), .int .u64 0]) ?_ 1 _ rfl; (with_reducible repeat (first | refine blk_drewN ?_ _ | refine blk_drew ?_ | refine blk_alloc ?_ _)); refine blk_put (cs := #[.int .u64 0, .int .u64 0]) ?_ 0 _ rfl; (with_reducible repeat (first | refine blk_drewN ?_ _ | refine blk_drew ?_ | refine blk_alloc ?_ _)); exact BK264.out) k_ hk⟩)); (case aO => exact (by (with_reducible repeat (first | apply Kd.R_alloc | apply Kd.R_drewN | apply Kd.R_drew)); exact Kd.R_mono (Kd.R_far (p := ⟨gb264, 1, none⟩) (Kd.R_far (p := ⟨gb264, 0, none⟩) (Kd.R_mono HO_8.out (fun k_ hk => (⟨hk, hk.2⟩ : _ ∧ k_ ≠ gb264))) (fun _ hk => hk.2) (.int .u64 (IntKind.u64.wrap (x11_1 + (IntKind.u64.wrap (rd l0 x12_1)))))) (fun _ hk => hk.2) (.int .u64 (rd l1 x12_1))) (fun _ hk => ⟨hk.1.1.1, ⟨hk.1.1.2, hk.1.2⟩⟩))); (case aS => exact (below_size (by repeat (first | (with_reducible first | exact HB.out | apply below_alloc | apply pw_below_drewN | apply below_drew1 | refine below_set ?_ GE264.out) | exact HB.out)))); (case aL => have := LMc14.out; omega); intro v266 w19 ho hb hg hat; rw [← Ny265.out] at ho; have n0_ := Aside0.mk (Kd.R_after (ok := (fun k_ => some k_ ≠ (u10 : Value).ownBlock ∧ k_ ≠ gb264)) (by (with_reducible repeat (first | apply Kd.R_alloc | apply Kd.R_drewN | apply Kd.R_drew)); exact Kd.R_mono (Kd.R_far (p := ⟨gb264, 1, none⟩) (Kd.R_far (p := ⟨gb264, 0, none⟩) (Kd.R_mono HO_9.out (fun k_ hk => (⟨hk, hk.2⟩ : _ ∧ k_ ≠ gb264))) (fun _ hk => hk.2) (.int .u64 (IntKind.u64.wrap (x11_1 + (IntKind.u64.wrap (rd l0 x12_1)))))) (fun _ hk => hk.2) (.int .u64 (rd l1 x12_1))) (fun _ hk => ⟨⟨hk.1.1.2, hk.1.2⟩, hk.1.1.1⟩)) hg hat); have n1_ := Aside0.mk (Kd.R_after (ok := (fun k_ => some k_ ≠ (u9 : Value).ownBlock ∧ k_ ≠ gb264)) (by (with_reducible repeat (first | apply Kd.R_alloc | apply Kd.R_drewN | apply Kd.R_drew)); exact Kd.R_mono (Kd.R_far (p := ⟨gb264, 1, none⟩) (Kd.R_far (p := ⟨gb264, 0, none⟩) (Kd.R_mono HO_10.out (fun k_ hk => (⟨hk, hk.2⟩ : _ ∧ k_ ≠ gb264))) (fun _ hk => hk.2) (.int .u64 (IntKind.u64.wrap (x11_1 + (IntKind.u64.wrap (rd l0 x12_1)))))) (fun _ hk => hk.2) (.int .u64 (rd l1 x12_1))) (fun _ hk => ⟨⟨hk.1.1.2, hk.1.2⟩, hk.1.1.1⟩)) hg hat); have n2_ := Aside0.mk (blk_grown (g := gb264) (o := .cells #[.int .u64 (IntKind.u64.wrap (x11_1 + (IntKind.u64.wrap (rd l0 x12_1)))), .int .u64 (rd l1 x12_1)] 25 (0, 0)) (by (with_reducible repeat (first | refine blk_drewN ?_ _ | refine blk_drew ?_ | refine blk_alloc ?_ _)); refine blk_put (cs := #[.int .u64 (IntKind.u64.wrap (x11_1 + (IntKind.u64.wrap (rd l0 x12_1)))), .int .u64 0]) ?_ 1 _ rfl; (with_reducible repeat (first | refine blk_drewN ?_ _ | refine blk_drew ?_ | refine blk_alloc ?_ _)); refine blk_put (cs := #[.int .u64 0, .int .u64 0]) ?_ 0 _ rfl; (with_reducible repeat (first | refine blk_drewN ?_ _ | refine blk_drew ?_ | refine blk_alloc ?_ _)); exact BK264.out) hg (Kd.R_away HO_8.out (fun _ hk => hk.2))); have n3_ := Aside0.mk (hb); have n4_ := Aside0.mk (ho); clear HO_9; clear HO_10; clear BK264; clear HB; clear HO_8; have HO_9 := n0_; have HO_10 := n1_; have BK264 := n2_; have HB := n3_; have HO267 := n4_; clear n0_ n1_ n2_ n3_ n4_; clear ho hb hg hat; have hcz20_0 : w19.cell? ⟨gb264, 0, none⟩ = some (.int .u64 (IntKind.u64.wrap (x11_1 + (IntKind.u64.wrap (rd l0 x12_1))))) := (blk_cell BK264.out 0).trans rfl; have hcz20_1 : w19.cell? ⟨gb264, 1, none⟩ = some (.int .u64 (rd l1 x12_1)) := (blk_cell BK264.out 1).trans rfl; have hfz20_0 := blk_frozen BK264.out 0; have hfz20_1 := blk_frozen BK264.out 1; obtain ⟨Ao21, co21, eo21⟩ := Kd.R_slice HO_9.out; subst eo21) | ((with_reducible refine gate_callee (f := 10) rfl ?_); refine goesL_ (some 54) rfl rfl Try.func10 (by kernel_rfl) rfl #[.slice Ao21 x9_1.length co21, .int .u64 a2, .agg #[.int .u64 (IntKind.u64.wrap (x11_1 + (IntKind.u64.wrap (rd l0 x12_1)))), .int .u64 (rd l1 x12_1)]] rfl (by (try simp only [List.map_toArray, List.map_cons, List.map_nil]); first | done | rfl | (simp only [List.length_drop, List.length_take]; rfl)) ?_; (with_reducible refine (filt_PushMax.calls kj7 _ _ x9_1 a2 (IntKind.u64.wrap (x11_1 + (IntKind.u64.wrap (rd l0 x12_1)))) (rd l1 x12_1) t268 _ ?side1 ?side2 A15.out).mono ?_); (case side1 => repeat (first | exact (Kd.R_reads' HO_9.out).2.2 | (with_reducible refine Kd.C_alloc ?_ _) | (with_reducible refine Kd.C_drewN ?_ _) | (with_reducible refine Kd.C_drew ?_))); (case side2 => exact (Kd.R_reads' HO_9.out).2.1); rintro e w22 ⟨v269, rfl, ho0, hb⟩; refine ⟨_, rfl, ?_⟩; have n0_ := Aside0.mk (Kd.R_elder' (by (with_reducible repeat (first | apply Kd.R_alloc | apply Kd.R_drewN | apply Kd.R_drew)); exact HO_9.out) (Kd.R_base ho0) hb); have n1_ := Aside0.mk (Kd.R_elder' (by (with_reducible repeat (first | apply Kd.R_alloc | apply Kd.R_drewN | apply Kd.R_drew)); exact HO_10.out) (Kd.R_base ho0) hb); have n2_ := Aside0.mk (Kd.R_elder' (by (with_reducible repeat (first | apply Kd.R_alloc | apply Kd.R_drewN | apply Kd.R_drew)); exact HO267.out) (Kd.R_base ho0) hb); have n3_ := Aside0.mk (Kd.R_lower (Kd.R_newB (Kd.R_new' (Kd.R_new' (Kd.R_new' ho0 (Kd.R_lt (by (with_reducible repeat (first | apply Kd.R_alloc | apply Kd.R_drewN | apply Kd.R_drew)); exact HO_9.out))) (Kd.R_lt (by (with_reducible repeat (first | apply Kd.R_alloc | apply Kd.R_drewN | apply Kd.R_drew)); exact HO_10.out))) (Kd.R_lt (by (with_reducible repeat (first | apply Kd.R_alloc | apply Kd.R_drewN | apply Kd.R_drew)); exact HO267.out))) (g := gb264) (o := .cells #[.int .u64 (IntKind.u64.wrap (x11_1 + (IntKind.u64.wrap (rd l0 x12_1)))), .int .u64 (rd l1 x12_1)] 25 (0, 0)) (by (with_reducible repeat (first | refine blk_drewN ?_ _ | refine blk_drew ?_ | refine blk_alloc ?_ _)); exact BK264.out)) (below_size (by repeat (first | (with_reducible first | exact HB.out | apply below_alloc | apply pw_below_drewN | apply below_drew1 | refine below_set ?_ GE264.out) | exact HB.out)))); have n4_ := Aside0.mk (blk_below (g := gb264) (o := .cells #[.int .u64 (IntKind.u64.wrap (x11_1 + (IntKind.u64.wrap (rd l0 x12_1)))), .int .u64 (rd l1 x12_1)] 25 (0, 0)) (by (with_reducible repeat (first | refine blk_drewN ?_ _ | refine blk_drew ?_ | refine blk_alloc ?_ _)); exact BK264.out) hb); have n5_ := Aside0.mk (below_step (by repeat (first | (with_reducible first | exact HB.out | apply below_alloc | apply pw_below_drewN | apply below_drew1 | refine below_set ?_ GE264.out) | exact HB.out)) hb); clear HO_9; clear HO_10; clear HO267; clear BK264; clear HB; have HO_9 := n0_; have HO_10 := n1_; have HO267 := n2_; have HO270 := n3_; have BK264 := n4_; have HB := n5_; clear n0_ n1_ n2_ n3_ n4_ n5_; (try clear hb); (try clear hb2); (try clear hk); (try clear hi); (try clear ho0); have hcz23_0 : w22.cell? ⟨gb264, 0, none⟩ = some (.int .u64 (IntKind.u64.wrap (x11_1 + (IntKind.u64.wrap (rd l0 x12_1))))) := (blk_cell BK264.out 0).trans rfl; have hcz23_1 : w22.cell? ⟨gb264, 1, none⟩ = some (.int .u64 (rd l1 x12_1)) := (blk_cell BK264.out 1).trans rfl; have hfz23_0 := blk_frozen BK264.out 0; have hfz23_1 := blk_frozen BK264.out 1; obtain ⟨Ao24, co24, eo24⟩ := Kd.R_slice HO_10.out; subst eo24) | ((with_reducible refine gate_callee (f := 12) rfl ?_); refine goesL_ (some 58) rfl rfl Try.func12 (by kernel_rfl) rfl #[.slice Ao24 x10_1.length co24, .int .u64 a2, .agg #[.int .u64 (IntKind.u64.wrap (x11_1 + (IntKind.u64.wrap (rd l0 x12_1)))), .int .u64 (rd l1 x12_1)]] rfl (by (try simp only [List.map_toArray, List.map_cons, List.map_nil]); first | done | rfl | (simp only [List.length_drop, List.length_take]; rfl)) ?_; (with_reducible refine (filt_PushMin.calls kj7 _ _ x10_1 a2 (IntKind.u64.wrap (x11_1 + (IntKind.u64.wrap (rd l0 x12_1)))) (rd l1 x12_1) t271 _ ?side1 ?side2 A16.out).mono ?_); (case side1 => repeat (first | exact (Kd.R_reads' HO_10.out).2.2 | (with_reducible refine Kd.C_alloc ?_ _) | (with_reducible refine Kd.C_drewN ?_ _) | (with_reducible refine Kd.C_drew ?_))); (case side2 => exact (Kd.R_reads' HO_10.out).2.1); rintro e w25 ⟨v272, rfl, ho0, hb⟩; refine ⟨_, rfl, ?_⟩; have n0_ := Aside0.mk (Kd.R_elder' (by (with_reducible repeat (first | apply Kd.R_alloc | apply Kd.R_drewN | apply Kd.R_drew)); exact HO_9.out) (Kd.R_base ho0) hb); have n1_ := Aside0.mk (Kd.R_elder' (by (with_reducible repeat (first | apply Kd.R_alloc | apply Kd.R_drewN | apply Kd.R_drew)); exact HO_10.out) (Kd.R_base ho0) hb); have n2_ := Aside0.mk (Kd.R_elder' (by (with_reducible repeat (first | apply Kd.R_alloc | apply Kd.R_drewN | apply Kd.R_drew)); exact HO267.out) (Kd.R_base ho0) hb); have n3_ := Aside0.mk (Kd.R_elder' (by (with_reducible repeat (first | apply Kd.R_alloc | apply Kd.R_drewN | apply Kd.R_drew)); exact HO270.out) (Kd.R_base ho0) hb); have n4_ := Aside0.mk (Kd.R_lower (Kd.R_newB (Kd.R_new' (Kd.R_new' (Kd.R_new' (Kd.R_new' ho0 (Kd.R_lt (by (with_reducible repeat (first | apply Kd.R_alloc | apply Kd.R_drewN | apply Kd.R_drew)); exact HO_9.out))) (Kd.R_lt (by (with_reducible repeat (first | apply Kd.R_alloc | apply Kd.R_drewN | apply Kd.R_drew)); exact HO_10.out))) (Kd.R_lt (by (with_reducible repeat (first | apply Kd.R_alloc | apply Kd.R_drewN | apply Kd.R_drew)); exact HO267.out))) (Kd.R_lt (by (with_reducible repeat (first | apply Kd.R_alloc | apply Kd.R_drewN | apply Kd.R_drew)); exact HO270.out))) (g := gb264) (o := .cells #[.int .u64 (IntKind.u64.wrap (x11_1 + (IntKind.u64.wrap (rd l0 x12_1)))), .int .u64 (rd l1 x12_1)] 25 (0, 0)) (by (with_reducible repeat (first | refine blk_drewN ?_ _ | refine blk_drew ?_ | refine blk_alloc ?_ _)); exact BK264.out)) (below_size (by repeat (first | (with_reducible first | exact HB.out | apply below_alloc | apply pw_below_drewN | apply below_drew1 | refine below_set ?_ GE264.out) | exact HB.out)))); have n5_ := Aside0.mk (blk_below (g := gb264) (o := .cells #[.int .u64 (IntKind.u64.wrap (x11_1 + (IntKind.u64.wrap (rd l0 x12_1)))), .int .u64 (rd l1 x12_1)] 25 (0, 0)) (by (with_reducible repeat (first | refine blk_drewN ?_ _ | refine blk_drew ?_ | refine blk_alloc ?_ _)); exact BK264.out) hb); have n6_ := Aside0.mk (below_step (by repeat (first | (with_reducible first | exact HB.out | apply below_alloc | apply pw_below_drewN | apply below_drew1 | refine below_set ?_ GE264.out) | exact HB.out)) hb); clear HO_9; clear HO_10; clear HO267; clear HO270; clear BK264; clear HB; have HO_9 := n0_; have HO_10 := n1_; have HO267 := n2_; have HO270 := n3_; have HO273 := n4_; have BK264 := n5_; have HB := n6_; clear n0_ n1_ n2_ n3_ n4_ n5_ n6_; (try clear hb); (try clear hb2); (try clear hk); (try clear hi); (try clear ho0); have p274 : 0 ≤ (x12_1 : Int) := of_decide_eq_true (by first | (with_reducible assumption) | assumption); have q274 : x12_1 < (l1.length : Int) := of_decide_eq_true (by first | (with_reducible assumption) | assumption); obtain ⟨ad274, e274, hx274_0⟩ := Kd.at_int HR1.out x12_1 p274 q274; obtain rfl : ad263 = ad274 := (by injection e274); replace hx274_0 := (HB.out.cell (World.block_lt_of_cell? w _ hx274_0)).trans hx274_0; replace p274 := eq_true p274; replace q274 := eq_true q274; have p275 : 0 ≤ (x12_1 : Int) := of_decide_eq_true (by first | (with_reducible assumption) | assumption); have q275 : x12_1 < (l1.length : Int) := of_decide_eq_true (by first | (with_reducible assumption) | assumption); obtain ⟨ad275, e275, hx275_0⟩ := Kd.at_int HR1.out x12_1 p275 q275; obtain rfl : ad263 = ad275 := (by injection e275); replace hx275_0 := (HB.out.cell (World.block_lt_of_cell? w _ hx275_0)).trans hx275_0; replace p275 := eq_true p275; replace q275 := eq_true q275))
                      go_loopg [14, 15, 16] kj7 (fun kq v14 v15 v16 w' => ∃ (x14_3 : Int) (x15_3 : Int) (x16_3 : Int), v14 = .int .u64 x14_3 ∧ v15 = .int .u64 x15_3 ∧ v16 = .int .i64 x16_3 ∧ Aside0 (wigwaglaw02_FiltWindows.l1 kq l0 l1 a2 t261 y265 t268 t271 (IntKind.u64.wrap (x11_1 + (IntKind.u64.wrap (rd l0 x12_1)))) x12_1 x14_3 x15_3 x16_3 = some r) ∧ Aside0 (kq ≤ kj7) ∧ Aside0 (Kd.R k25 25 w' w.heap.size (fun k_ => some k_ ≠ (v269 : Value).ownBlock ∧ some k_ ≠ (v272 : Value).ownBlock ∧ k_ ≠ gb264) v266 y265) ∧ Aside0 (Kd.R k25 25 w' w.heap.size (fun k_ => some k_ ≠ (v266 : Value).ownBlock ∧ some k_ ≠ (v272 : Value).ownBlock ∧ k_ ≠ gb264) v269 t268) ∧ Aside0 (Kd.R k25 25 w' w.heap.size (fun k_ => some k_ ≠ (v266 : Value).ownBlock ∧ some k_ ≠ (v269 : Value).ownBlock ∧ k_ ≠ gb264) v272 t271) ∧ Aside0 (w'.heap[gb264]? = some (.cells #[.int .u64 (IntKind.u64.wrap (x11_1 + (IntKind.u64.wrap (rd l0 x12_1)))), .int .u64 (rd l1 x12_1)] 25 (0, 0))) ∧ Aside0 (Below w.heap.size w w'))
                      case atStart => exact ⟨(rd l1 x12_1), (rd l1 x12_1), (0), (by first | rfl | (simp; done) | (simp [*]; done)), (by first | rfl | (simp; done) | (simp [*]; done)), (by first | rfl | (simp; done) | (simp [*]; done)), H', ⟨Nat.le_refl _⟩, ⟨by (with_reducible repeat (first | apply Kd.R_alloc | apply Kd.R_drewN | apply Kd.R_drew)); exact Kd.R_mono HO267.out (fun _ hk => ⟨hk.1.2, ⟨hk.2, hk.1.1.2.2⟩⟩)⟩, ⟨by (with_reducible repeat (first | apply Kd.R_alloc | apply Kd.R_drewN | apply Kd.R_drew)); exact Kd.R_mono HO270.out (fun _ hk => ⟨hk.1.1.2, ⟨hk.2, hk.1.2⟩⟩)⟩, ⟨by (with_reducible repeat (first | apply Kd.R_alloc | apply Kd.R_drewN | apply Kd.R_drew)); exact Kd.R_mono HO273.out (fun _ hk => ⟨hk.1.1.2, ⟨hk.1.2, hk.2⟩⟩)⟩, ⟨by (with_reducible repeat (first | refine blk_drewN ?_ _ | refine blk_drew ?_ | refine blk_alloc ?_ _)); exact BK264.out⟩, ⟨by repeat (first | (with_reducible first | exact HB.out | apply below_alloc | apply pw_below_drewN | apply below_drew1 | refine below_set ?_ GE264.out) | exact HB.out)⟩⟩
                      case round =>
                        clear H'
                        try clear c1
                        try clear p2
                        try clear q2
                        try clear hx2
                        try clear c4
                        try clear c5
                        try clear c5b0
                        try clear c5b1
                        try clear c8
                        try clear c9
                        try clear c9b0
                        try clear c10
                        try clear c11
                        try clear c11b0
                        try clear c12
                        try clear c12b0
                        try clear c13
                        try clear c13b0
                        try clear c14
                        try clear hcz18_0
                        try clear hcz18_1
                        try clear hcz20_0
                        try clear hcz20_1
                        try clear hcz23_0
                        try clear hcz23_1
                        try clear hfz18_0
                        try clear hfz18_1
                        try clear hfz20_0
                        try clear hfz20_1
                        try clear hfz23_0
                        try clear hfz23_1
                        try clear hx262_0
                        try clear hx263_0
                        try clear hx274_0
                        try clear hx275_0
                        try clear p2
                        try clear p262
                        try clear p263
                        try clear p274
                        try clear p275
                        try clear q262
                        try clear q263
                        try clear q274
                        try clear q275
                        obtain ⟨x14_3, x15_3, x16_3, rfl, rfl, rfl, HA, HK3, HO_8, HO_9, HO_10, BK264, HB⟩ := hrel
                        cases gk with
                        | zero => exact absurd HA.out (by simp [wigwaglaw02_FiltWindows.l1])
                        | succ k3 =>
                          have H := HA.out
                          clear HA
                          simp only [wigwaglaw02_FiltWindows.l1] at H
                          by_cases c26 : x16_3 < (y265.length : Int)
                          · rw [if_pos c26] at H
                            have c26b0 : decide (x16_3 < (y265.length : Int)) = true := decide_eq_true c26
                            clear c26
                            by_cases c27 : 0 ≤ x16_3
                            · rw [if_pos c27] at H
                              have c27b0 : decide (0 ≤ x16_3) = true := decide_eq_true c27
                              clear c27
                              replace H := Option.bind_eq_some_iff.mp H
                              obtain ⟨t277, A280, H⟩ := H
                              replace H : (if t277 ≥ (IntKind.u64.wrap (x11_1 + (IntKind.u64.wrap (rd l0 x12_1)))) then (wigwaglaw02_FiltWindows.l1 k3 l0 l1 a2 t261 y265 t268 t271 (IntKind.u64.wrap (x11_1 + (IntKind.u64.wrap (rd l0 x12_1)))) x12_1 (mx x14_3 ((rd_T25 y265 x16_3).f1)) (mn x15_3 ((rd_T25 y265 x16_3).f1)) (wrap64 (x16_3 + 1))) else (wigwaglaw02_FiltWindows.l1 k3 l0 l1 a2 t261 y265 t268 t271 (IntKind.u64.wrap (x11_1 + (IntKind.u64.wrap (rd l0 x12_1)))) x12_1 x14_3 x15_3 (wrap64 (x16_3 + 1)))) = some r := H
                              have A28 := Aside0.mk A280
                              clear A280
                              by_cases c29 : t277 ≥ (IntKind.u64.wrap (x11_1 + (IntKind.u64.wrap (rd l0 x12_1))))
                              · rw [if_pos c29] at H
                                have c29b0 : decide ((IntKind.u64.wrap (x11_1 + (IntKind.u64.wrap (rd l0 x12_1)))) ≤ t277) = true := decide_eq_true c29
                                clear c29
                                obtain ⟨ji30, hji30⟩ : ∃ j_ : Int, (mx x14_3 ((rd_T25 y265 x16_3).f1)) = j_ := ⟨_, rfl⟩
                                replace H : (wigwaglaw02_FiltWindows.l1 k3 l0 l1 a2 t261 y265 t268 t271 (IntKind.u64.wrap (x11_1 + (IntKind.u64.wrap (rd l0 x12_1)))) x12_1 ji30 (mn x15_3 ((rd_T25 y265 x16_3).f1)) (wrap64 (x16_3 + 1))) = some r := by first | (rw [hji30] at H; exact H) | (simp only [hji30] at H ⊢; exact H)
                                (try rw [hji30] at A28)
                                have hji30_ : (if x14_3 < ((rd_T25 y265 x16_3).f1) then ((rd_T25 y265 x16_3).f1) else x14_3) = ji30 := hji30
                                obtain ⟨ji31, hji31⟩ : ∃ j_ : Int, (mn x15_3 ((rd_T25 y265 x16_3).f1)) = j_ := ⟨_, rfl⟩
                                replace H : (wigwaglaw02_FiltWindows.l1 k3 l0 l1 a2 t261 y265 t268 t271 (IntKind.u64.wrap (x11_1 + (IntKind.u64.wrap (rd l0 x12_1)))) x12_1 ji30 ji31 (wrap64 (x16_3 + 1))) = some r := by first | (rw [hji31] at H; exact H) | (simp only [hji31] at H ⊢; exact H)
                                (try rw [hji31] at A28)
                                have hji31_ : (if ((rd_T25 y265 x16_3).f1) < x15_3 then ((rd_T25 y265 x16_3).f1) else x15_3) = ji31 := hji31
                                have H' := Aside0.mk H
                                clear H
                                obtain ⟨Ao32, co32, eo32⟩ := Kd.R_slice HO_8.out
                                subst eo32
                                have p276 : 0 ≤ (x16_3 : Int) := of_decide_eq_true (by first | (with_reducible assumption) | assumption)
                                have q276 : x16_3 < (y265.length : Int) := of_decide_eq_true (by first | (with_reducible assumption) | assumption)
                                obtain ⟨ad276, e276, hx276_0, hx276_1⟩ := at_T25 (Kd.R_reads' HO_8.out).2.2 x16_3 p276 q276
                                cases e276
                                replace p276 := eq_true p276
                                replace q276 := eq_true q276
                                go_wp2_with (first | ((with_reducible refine gate_callee (f := 16) rfl ?_); refine goesL_ (some 79) rfl rfl Try.func16 (by kernel_rfl) rfl #[.int .u64 ((rd_T25 y265 x16_3).f0), .int .u64 a2] rfl (by (try simp only [List.map_toArray, List.map_cons, List.map_nil]); first | done | rfl | (simp only [List.length_drop, List.length_take]; rfl)) ?_; (with_reducible refine (wigwagref01_Add.calls ((rd_T25 y265 x16_3).f0) a2 t277 _ A28.out).mono ?_); rintro e w' ⟨rfl, ⟨nd, rfl⟩⟩; refine ⟨_, rfl, ?_⟩; have p278 : 0 ≤ (x16_3 : Int) := of_decide_eq_true (by first | (with_reducible assumption) | assumption); have q278 : x16_3 < (y265.length : Int) := of_decide_eq_true (by first | (with_reducible assumption) | assumption); obtain ⟨ad278, e278, hx278_0, hx278_1⟩ := at_T25 (Kd.R_reads' HO_8.out).2.2 x16_3 p278 q278; obtain rfl : ad276 = ad278 := (by injection e278); replace p278 := eq_true p278; replace q278 := eq_true q278; have p279 : 0 ≤ (x16_3 : Int) := of_decide_eq_true (by first | (with_reducible assumption) | assumption); have q279 : x16_3 < (y265.length : Int) := of_decide_eq_true (by first | (with_reducible assumption) | assumption); obtain ⟨ad279, e279, hx279_0, hx279_1⟩ := at_T25 (Kd.R_reads' HO_8.out).2.2 x16_3 p279 q279; obtain rfl : ad276 = ad279 := (by injection e279); replace p279 := eq_true p279; replace q279 := eq_true q279))
                                go_roundg k3
                                case measure => have := HK1.out; have := HJ7.out; have := HK3.out; omega
                                case rel => exact ⟨(ji30), (ji31), (wrap64 (x16_3 + 1)), (by first | rfl | (simp; done) | (simp only [← hji30] <;> (first | rfl | (simp; done))) | (simp [*]; done) | (simp only [← hji30]; congr 1; unfold mn mx; omega) | (simp only [← hji30]; congr 1; unfold mn; omega) | (simp only [← hji30]; congr 1; unfold mx; omega)), (by first | rfl | (simp; done) | (simp only [← hji31] <;> (first | rfl | (simp; done))) | (simp [*]; done) | (simp only [← hji31]; congr 1; unfold mn mx; omega) | (simp only [← hji31]; congr 1; unfold mn; omega) | (simp only [← hji31]; congr 1; unfold mx; omega)), (by first | rfl | (simp; done) | (simp [*]; done)), H', ⟨by have := HK1.out; have := HJ7.out; have := HK3.out; omega⟩, ⟨by (with_reducible repeat (first | apply Kd.R_alloc | apply Kd.R_drewN | apply Kd.R_drew)); exact HO_8.out⟩, ⟨by (with_reducible repeat (first | apply Kd.R_alloc | apply Kd.R_drewN | apply Kd.R_drew)); exact HO_9.out⟩, ⟨by (with_reducible repeat (first | apply Kd.R_alloc | apply Kd.R_drewN | apply Kd.R_drew)); exact HO_10.out⟩, ⟨by (with_reducible repeat (first | refine blk_drewN ?_ _ | refine blk_drew ?_ | refine blk_alloc ?_ _)); exact BK264.out⟩, ⟨by repeat (first | (with_reducible first | exact HB.out | apply below_alloc | apply pw_below_drewN | apply below_drew1 | refine below_set ?_ GE264.out) | exact HB.out)⟩⟩
                              · rw [if_neg c29] at H
                                have c29b0 : decide ((IntKind.u64.wrap (x11_1 + (IntKind.u64.wrap (rd l0 x12_1)))) ≤ t277) = false := decide_eq_false c29
                                clear c29
                                have H' := Aside0.mk H
                                clear H
                                obtain ⟨Ao33, co33, eo33⟩ := Kd.R_slice HO_8.out
                                subst eo33
                                have p276 : 0 ≤ (x16_3 : Int) := of_decide_eq_true (by first | (with_reducible assumption) | assumption)
                                have q276 : x16_3 < (y265.length : Int) := of_decide_eq_true (by first | (with_reducible assumption) | assumption)
                                obtain ⟨ad276, e276, hx276_0, hx276_1⟩ := at_T25 (Kd.R_reads' HO_8.out).2.2 x16_3 p276 q276
                                cases e276
                                replace p276 := eq_true p276
                                replace q276 := eq_true q276
                                go_wp2_with (first | ((with_reducible refine gate_callee (f := 16) rfl ?_); refine goesL_ (some 79) rfl rfl Try.func16 (by kernel_rfl) rfl #[.int .u64 ((rd_T25 y265 x16_3).f0), .int .u64 a2] rfl (by (try simp only [List.map_toArray, List.map_cons, List.map_nil]); first | done | rfl | (simp only [List.length_drop, List.length_take]; rfl)) ?_; (with_reducible refine (wigwagref01_Add.calls ((rd_T25 y265 x16_3).f0) a2 t277 _ A28.out).mono ?_); rintro e w' ⟨rfl, ⟨nd, rfl⟩⟩; refine ⟨_, rfl, ?_⟩))
                                go_roundg k3
                                case measure => have := HK1.out; have := HJ7.out; have := HK3.out; omega
                                case rel => exact ⟨(x14_3), (x15_3), (wrap64 (x16_3 + 1)), (by first | rfl | (simp; done) | (simp [*]; done)), (by first | rfl | (simp; done) | (simp [*]; done)), (by first | rfl | (simp; done) | (simp [*]; done)), H', ⟨by have := HK1.out; have := HJ7.out; have := HK3.out; omega⟩, ⟨by (with_reducible repeat (first | apply Kd.R_alloc | apply Kd.R_drewN | apply Kd.R_drew)); exact HO_8.out⟩, ⟨by (with_reducible repeat (first | apply Kd.R_alloc | apply Kd.R_drewN | apply Kd.R_drew)); exact HO_9.out⟩, ⟨by (with_reducible repeat (first | apply Kd.R_alloc | apply Kd.R_drewN | apply Kd.R_drew)); exact HO_10.out⟩, ⟨by (with_reducible repeat (first | refine blk_drewN ?_ _ | refine blk_drew ?_ | refine blk_alloc ?_ _)); exact BK264.out⟩, ⟨by repeat (first | (with_reducible first | exact HB.out | apply below_alloc | apply pw_below_drewN | apply below_drew1 | refine below_set ?_ GE264.out) | exact HB.out)⟩⟩
                            · rw [if_neg c27] at H
                              exact absurd H (by simp)
                          · rw [if_neg c26] at H
                            have c26b0 : decide (x16_3 < (y265.length : Int)) = false := decide_eq_false c26
                            clear c26
                            replace H := Option.bind_eq_some_iff.mp H
                            obtain ⟨t280, A340, H⟩ := H
                            replace H : (if t280 = x14_3 then ((filt_Best.f t271).bind fun t281 => (if t281 = x15_3 then (wigwaglaw02_FiltWindows.l0 k3 l0 l1 a2 t261 y265 t268 t271 (IntKind.u64.wrap (x11_1 + (IntKind.u64.wrap (rd l0 x12_1)))) (wrap64 (x12_1 + 1))) else (some false))) else (some false)) = some r := H
                            have A34 := Aside0.mk A340
                            clear A340
                            by_cases c35 : t280 = x14_3
                            · rw [if_pos c35] at H
                              have c35b0 : (t280 == x14_3) = true := beq_iff_eq.mpr c35
                              have c35b1 : (t280 != x14_3) = false := bne_eq_false_iff_eq.mpr c35
                              clear c35
                              replace H := Option.bind_eq_some_iff.mp H
                              obtain ⟨t281, A360, H⟩ := H
                              replace H : (if t281 = x15_3 then (wigwaglaw02_FiltWindows.l0 k3 l0 l1 a2 t261 y265 t268 t271 (IntKind.u64.wrap (x11_1 + (IntKind.u64.wrap (rd l0 x12_1)))) (wrap64 (x12_1 + 1))) else (some false)) = some r := H
                              have A36 := Aside0.mk A360
                              clear A360
                              by_cases c37 : t281 = x15_3
                              · rw [if_pos c37] at H
                                have c37b0 : (t281 == x15_3) = true := beq_iff_eq.mpr c37
                                have c37b1 : (t281 != x15_3) = false := bne_eq_false_iff_eq.mpr c37
                                clear c37
                                have H' := Aside0.mk H
                                clear H
                                obtain ⟨Ao38, co38, eo38⟩ := Kd.R_slice HO_8.out
                                subst eo38
                                obtain ⟨Ao39, co39, eo39⟩ := Kd.R_slice HO_9.out
                                subst eo39
                                go_wp2_with (first | ((with_reducible refine gate_callee (f := 14) rfl ?_); refine goesL_ (some 97) rfl rfl Try.func14 (by kernel_rfl) rfl #[.slice Ao39 t268.length co39] rfl (by (try simp only [List.map_toArray, List.map_cons, List.map_nil]); first | done | rfl | (simp only [List.length_drop, List.length_take]; rfl)) ?_; (with_reducible refine (filt_Best.calls _ _ t268 t280 _ ?side1 ?side2 A34.out).mono ?_); (case side1 => repeat (first | exact (Kd.R_reads' HO_9.out).2.2 | (with_reducible refine Kd.C_alloc ?_ _) | (with_reducible refine Kd.C_drewN ?_ _) | (with_reducible refine Kd.C_drew ?_))); (case side2 => exact (Kd.R_reads' HO_9.out).2.1); rintro e w' ⟨rfl, ⟨nd, rfl⟩⟩; refine ⟨_, rfl, ?_⟩; obtain ⟨Ao40, co40, eo40⟩ := Kd.R_slice HO_10.out; subst eo40) | (go_at_call 14; (with_reducible refine (filt_Best.calls _ _ t271 t281 _ ?side1 ?side2 A36.out).mono ?_); (case side1 => repeat (first | exact (Kd.R_reads' HO_10.out).2.2 | (with_reducible refine Kd.C_alloc ?_ _) | (with_reducible refine Kd.C_drewN ?_ _) | (with_reducible refine Kd.C_drew ?_))); (case side2 => exact (Kd.R_reads' HO_10.out).2.1); rintro e w' ⟨rfl, ⟨nd, rfl⟩⟩))
                                go_roundg k3
                                case measure => have := HK1.out; have := HJ7.out; have := HK3.out; omega
                                case rel => exact ⟨(y265), (t268), (t271), ((IntKind.u64.wrap (x11_1 + (IntKind.u64.wrap (rd l0 x12_1))))), (wrap64 (x12_1 + 1)), (by first | rfl | (simp; done) | (simp [*]; done)), (by first | rfl | (simp; done) | (simp [*]; done)), H', ⟨by have := HK1.out; have := HJ7.out; have := HK3.out; omega⟩, ⟨by (with_reducible repeat (first | apply Kd.R_alloc | apply Kd.R_drewN | apply Kd.R_drew)); exact Kd.R_mono HO_8.out (fun _ hk => ⟨hk.1, hk.2.1⟩)⟩, ⟨by (with_reducible repeat (first | apply Kd.R_alloc | apply Kd.R_drewN | apply Kd.R_drew)); exact Kd.R_mono HO_9.out (fun _ hk => ⟨hk.1, hk.2.1⟩)⟩, ⟨by (with_reducible repeat (first | apply Kd.R_alloc | apply Kd.R_drewN | apply Kd.R_drew)); exact Kd.R_mono HO_10.out (fun _ hk => ⟨hk.1, hk.2.1⟩)⟩, ⟨by repeat (first | (with_reducible first | exact HB.out | apply below_alloc | apply pw_below_drewN | apply below_drew1 | refine below_set ?_ GE264.out) | exact HB.out)⟩⟩
                              · rw [if_neg c37] at H
                                have c37b0 : (t281 == x15_3) = false := beq_eq_false_iff_ne.mpr c37
                                have c37b1 : (t281 != x15_3) = true := bne_iff_ne.mpr c37
                                obtain rfl := Option.some.inj H
                                obtain ⟨Ao41, co41, eo41⟩ := Kd.R_slice HO_8.out
                                subst eo41
                                obtain ⟨Ao42, co42, eo42⟩ := Kd.R_slice HO_9.out
                                subst eo42
                                go_wp2_with (first | ((with_reducible refine gate_callee (f := 14) rfl ?_); refine goesL_ (some 97) rfl rfl Try.func14 (by kernel_rfl) rfl #[.slice Ao42 t268.length co42] rfl (by (try simp only [List.map_toArray, List.map_cons, List.map_nil]); first | done | rfl | (simp only [List.length_drop, List.length_take]; rfl)) ?_; (with_reducible refine (filt_Best.calls _ _ t268 t280 _ ?side1 ?side2 A34.out).mono ?_); (case side1 => repeat (first | exact (Kd.R_reads' HO_9.out).2.2 | (with_reducible refine Kd.C_alloc ?_ _) | (with_reducible refine Kd.C_drewN ?_ _) | (with_reducible refine Kd.C_drew ?_))); (case side2 => exact (Kd.R_reads' HO_9.out).2.1); rintro e w' ⟨rfl, ⟨nd, rfl⟩⟩; refine ⟨_, rfl, ?_⟩; obtain ⟨Ao43, co43, eo43⟩ := Kd.R_slice HO_10.out; subst eo43) | (go_at_call 14; (with_reducible refine (filt_Best.calls _ _ t271 t281 _ ?side1 ?side2 A36.out).mono ?_); (case side1 => repeat (first | exact (Kd.R_reads' HO_10.out).2.2 | (with_reducible refine Kd.C_alloc ?_ _) | (with_reducible refine Kd.C_drewN ?_ _) | (with_reducible refine Kd.C_drew ?_))); (case side2 => exact (Kd.R_reads' HO_10.out).2.1); rintro e w' ⟨rfl, ⟨nd, rfl⟩⟩))
                                go_ret
                                exact ⟨by first | rfl | (simp [errW_none, errW_some] <;> rfl) | (simp [*, errW_none, errW_some] <;> rfl), by repeat (first | (with_reducible first | exact HB.out | apply below_alloc | apply pw_below_drewN | apply below_drew1 | refine below_set ?_ GE264.out) | exact HB.out)⟩
                            · rw [if_neg c35] at H
                              have c35b0 : (t280 == x14_3) = false := beq_eq_false_iff_ne.mpr c35
                              have c35b1 : (t280 != x14_3) = true := bne_iff_ne.mpr c35
                              obtain rfl := Option.some.inj H
                              obtain ⟨Ao44, co44, eo44⟩ := Kd.R_slice HO_8.out
                              subst eo44
                              obtain ⟨Ao45, co45, eo45⟩ := Kd.R_slice HO_9.out
                              subst eo45
                              go_wp2_with (first | ((with_reducible refine gate_callee (f := 14) rfl ?_); refine goesL_ (some 97) rfl rfl Try.func14 (by kernel_rfl) rfl #[.slice Ao45 t268.length co45] rfl (by (try simp only [List.map_toArray, List.map_cons, List.map_nil]); first | done | rfl | (simp only [List.length_drop, List.length_take]; rfl)) ?_; (with_reducible refine (filt_Best.calls _ _ t268 t280 _ ?side1 ?side2 A34.out).mono ?_); (case side1 => repeat (first | exact (Kd.R_reads' HO_9.out).2.2 | (with_reducible refine Kd.C_alloc ?_ _) | (with_reducible refine Kd.C_drewN ?_ _) | (with_reducible refine Kd.C_drew ?_))); (case side2 => exact (Kd.R_reads' HO_9.out).2.1); rintro e w' ⟨rfl, ⟨nd, rfl⟩⟩; refine ⟨_, rfl, ?_⟩))
                              go_ret
                              exact ⟨by first | rfl | (simp [errW_none, errW_some] <;> rfl) | (simp [*, errW_none, errW_some] <;> rfl), by repeat (first | (with_reducible first | exact HB.out | apply below_alloc | apply pw_below_drewN | apply below_drew1 | refine below_set ?_ GE264.out) | exact HB.out)⟩
                    · rw [if_neg c14] at H
                      exact absurd H (by simp)
                  · rw [if_neg c13] at H
                    exact absurd H (by simp)
                · rw [if_neg c12] at H
                  exact absurd H (by simp)
              · rw [if_neg c11] at H
                exact absurd H (by simp)
            · replace c10 := Bool.eq_false_iff.mpr c10
              subst c10
              have H1 : (some t261) = some r := by rw [if_neg (show ¬ (false = true) by decide)] at H; exact H
              clear H
              have H := H1
              clear H1
              obtain rfl := Option.some.inj H
              go_wp2
              go_ret
              exact ⟨by first | rfl | (simp [errW_none, errW_some] <;> rfl) | (simp [*, errW_none, errW_some] <;> rfl), by repeat (first | (with_reducible first | exact HB.out | apply below_alloc | apply pw_below_drewN | apply below_drew1) | exact HB.out)⟩

/-- THE ONE PURE STATEMENT of wigwaglaw02_FiltWindows: yours. -/
def wigwaglaw02_FiltWindows.Pure : Prop := ∀ (l0 : List Int) (l1 : List Int) (a2 : Int), l0.length ≤ maxLen → l0.length * 2 ≤ 140737488351232 → (∀ x ∈ l0, (Lit.int .u16 x).wf = true) → l1.length ≤ maxLen → l1.length * 8 ≤ 140737488351232 → (∀ x ∈ l1, (Lit.int .u64 x).wf = true) → (Lit.int .u64 a2).wf = true → ∃ k, wigwaglaw02_FiltWindows.f k l0 l1 a2 = some true
theorem wigwaglaw02_FiltWindows.walk (P : wigwaglaw02_FiltWindows.Pure) (a0 : Option Addr) (len0 cap0 : Nat) (z0 : List Int) (a1 : Option Addr) (len1 cap1 : Nat) (z1 : List Int) (a2 : Int) (w : World) (w0 : (a0 = none ∧ len0 = 0 ∧ cap0 = 0 ∧ z0 = []) ∨ ∃ x, a0 = some x ∧ len0 ≤ cap0 ∧ cap0 ≤ maxLen ∧ z0.length = cap0 ∧ (∀ i, i < z0.length → w.cell? (x.add i) = some (.int .u16 (z0.getD i 0))) ∧ ∀ n ∈ z0, (Lit.int .u16 n).wf = true) (y0 : len0 * 2 ≤ 140737488351232) (w1 : (a1 = none ∧ len1 = 0 ∧ cap1 = 0 ∧ z1 = []) ∨ ∃ x, a1 = some x ∧ len1 ≤ cap1 ∧ cap1 ≤ maxLen ∧ z1.length = cap1 ∧ (∀ i, i < z1.length → w.cell? (x.add i) = some (.int .u64 (z1.getD i 0))) ∧ ∀ n ∈ z1, (Lit.int .u64 n).wf = true) (y1 : len1 * 8 ≤ 140737488351232) (w2 : (Lit.int .u64 a2).wf = true) :
    Calls Try.prog 4 #[.slice a0 len0 cap0, .slice a1 len1 cap1, .int .u64 a2] w fun e w' => e = .returned (.bool true) ∧ Below w.heap.size w w' := by
  obtain ⟨l0, rfl, hr0, hm0, hw0, hc0⟩ := ReadsInt.ofRowC w0
  obtain ⟨l1, rfl, hr1, hm1, hw1, hc1⟩ := ReadsInt.ofRowC w1
  obtain ⟨k, h⟩ := P l0 l1 a2 hm0 y0 hw0 hm1 y1 hw1 w2
  refine (wigwaglaw02_FiltWindows.calls k _ _ l0 _ _ l1 a2 true w (Kd.C_of_reads (d := (0 : Int)) (h1 := fun _ => rfl) hr0) hc0 (Kd.C_of_reads (d := (0 : Int)) (h1 := fun _ => rfl) hr1) hc1 h).mono ?_
  rintro e w' ⟨rfl, hd⟩
  exact ⟨rfl, hd⟩

end Go.Proofs.Ytmnpgcpejfkaaaa.P
