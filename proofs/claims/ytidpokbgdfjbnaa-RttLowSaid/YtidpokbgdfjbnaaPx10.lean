-- Printed for this claim by xprint.py of this session: contracts of this session's own stand in for what the print does not take
import Derived.Test.YtidpokbgdfjbnaaPx0
import Derived.Test.YtidpokbgdfjbnaaPx3
import Derived.Test.YtidpokbgdfjbnaaPx5
import Derived.Test.YtidpokbgdfjbnaaPx7
namespace Go.Proofs.Ytidpokbgdfjbnaa.P
open Go.RowKit Go.Proofs.YtidpokbgdfjbnaaW.PrintWords Go.Proofs.YtidpokbgdfjbnaaW.PrintLast Go.Proofs.YtidpokbgdfjbnaaW.PrintMore
attribute [local go_sem] max2_int min2_int max_two min_two max_three min_three max_four min_four   -- for this text's walks alone
set_option linter.unusedVariables false
set_option linter.unusedSimpArgs false

/-! ### wigwaglaw08_RttLow: function 4 -/
mutual
def wigwaglaw08_RttLow.l0 : Nat → List Int → List Int → Int → Bool → Int → Int → Int → Bool → Int → Int → Int → Int → Option (Bool)
  | 0, _, _, _, _, _, _, _, _, _, _, _, _ => none
  | k + 1, x0, x1, x2, x7, x9, x10, x11, x163000, x163001, x163002, x163003, x163004 => if x11 < (x0.length : Int) then (wigwaglaw08_RttLow.j1 k x0 x1 x2 x7 x9 x10 x11 (decide (x11 < (x1.length : Int))) x163000 x163001 x163002 x163003 x163004) else (wigwaglaw08_RttLow.j1 k x0 x1 x2 x7 x9 x10 x11 false x163000 x163001 x163002 x163003 x163004)
def wigwaglaw08_RttLow.j1 : Nat → List Int → List Int → Int → Bool → Int → Int → Int → Bool → Bool → Int → Int → Int → Int → Option (Bool)
  | 0, _, _, _, _, _, _, _, _, _, _, _, _, _ => none
  | k + 1, x0, x1, x2, x7, x9, x10, x11, x27, x163000, x163001, x163002, x163003, x163004 => if x27 = true then (if 0 ≤ x11 then (if x11 < (x0.length : Int) then (if x11 < (x1.length : Int) then ((rtt_Update.f k x163000 x163001 x163002 x163003 x163004 (IntKind.u64.wrap (rd x0 x11)) (IntKind.u64.wrap (rd x1 x11)) (IntKind.u64.wrap (x2))).bind fun bt165 => (if bt165.1 = true then (if bt165.2.2.1 = (mn x9 (IntKind.u64.wrap (rd x0 x11))) then (if bt165.2.1 = (IntKind.u64.wrap (rd x0 x11)) then (if bt165.2.2.2.1 > (mx x10 (IntKind.u64.wrap (rd x0 x11))) then (some false) else (if bt165.2.2.2.2 > (mx x10 (IntKind.u64.wrap (rd x0 x11))) then (some false) else ((rtt_Timeout.f k bt165.1 bt165.2.1 bt165.2.2.1 bt165.2.2.2.1 bt165.2.2.2.2 (IntKind.u64.wrap (x2)) 0).bind fun t170 => (if t170 ≤ (IntKind.u64.wrap (x2)) then (some false) else (wigwaglaw08_RttLow.l0 k x0 x1 x2 x7 (mn x9 (IntKind.u64.wrap (rd x0 x11))) (mx x10 (IntKind.u64.wrap (rd x0 x11))) (wrap64 (x11 + 1)) bt165.1 bt165.2.1 bt165.2.2.1 bt165.2.2.2.1 bt165.2.2.2.2))))) else (some false)) else (some false)) else (some false))) else (none)) else (none)) else (none)) else (some x7)
end
def wigwaglaw08_RttLow.f (k : Nat) (l0 : List Int) (l1 : List Int) (a2 : Int) : Option (Bool) := (wigwaglaw08_awake.f k).bind fun t161 => (if (l0.length : Int) > 100 then (some t161) else (wigwaglaw08_RttLow.l0 k l0 l1 a2 t161 18446744073709551615 0 0 false 0 0 0 0))
theorem wigwaglaw08_RttLow.mono_l : ∀ k, (∀ y0 y1 y2 y3 y4 y5 y6 y7 y8 y9 y10 y11, LeO (wigwaglaw08_RttLow.l0 k y0 y1 y2 y3 y4 y5 y6 y7 y8 y9 y10 y11) (wigwaglaw08_RttLow.l0 (k + 1) y0 y1 y2 y3 y4 y5 y6 y7 y8 y9 y10 y11)) ∧ (∀ y0 y1 y2 y3 y4 y5 y6 y7 y8 y9 y10 y11 y12, LeO (wigwaglaw08_RttLow.j1 k y0 y1 y2 y3 y4 y5 y6 y7 y8 y9 y10 y11 y12) (wigwaglaw08_RttLow.j1 (k + 1) y0 y1 y2 y3 y4 y5 y6 y7 y8 y9 y10 y11 y12))
  | 0 => ⟨fun _ _ _ _ _ _ _ _ _ _ _ _ r h => by simp [wigwaglaw08_RttLow.l0] at h, fun _ _ _ _ _ _ _ _ _ _ _ _ _ r h => by simp [wigwaglaw08_RttLow.j1] at h⟩
  | k + 1 => by
    obtain ⟨ih0, ih1⟩ := wigwaglaw08_RttLow.mono_l k
    refine ⟨?_, ?_⟩
    · intro y0 y1 y2 y3 y4 y5 y6 y7 y8 y9 y10 y11
      unfold wigwaglaw08_RttLow.l0
      repeat' first
      | (with_reducible exact ih0 _ _ _ _ _ _ _ _ _ _ _ _)
      | (with_reducible exact ih1 _ _ _ _ _ _ _ _ _ _ _ _ _)
      | (with_reducible exact rtt_Timeout.mono _ _ _ _ _ _ _ _)
      | (with_reducible exact rtt_Update.mono _ _ _ _ _ _ _ _ _)
      | (with_reducible exact wigwaglaw08_awake.mono _)
      | (with_reducible exact LeO.refl _)
      | (with_reducible exact LeO.none _)
      | (with_reducible refine LeO.ite ?_ ?_)
      | (with_reducible refine LeO.bind ?_ (fun _ => ?_))
      | exact ih0 _ _ _ _ _ _ _ _ _ _ _ _
      | exact ih1 _ _ _ _ _ _ _ _ _ _ _ _ _
      | exact rtt_Timeout.mono _ _ _ _ _ _ _ _
      | exact rtt_Update.mono _ _ _ _ _ _ _ _ _
      | exact wigwaglaw08_awake.mono _
      | exact LeO.none _
      | refine LeO.ite ?_ ?_
      | refine LeO.bind ?_ (fun _ => ?_)
    · intro y0 y1 y2 y3 y4 y5 y6 y7 y8 y9 y10 y11 y12
      unfold wigwaglaw08_RttLow.j1
      repeat' first
      | (with_reducible exact ih0 _ _ _ _ _ _ _ _ _ _ _ _)
      | (with_reducible exact ih1 _ _ _ _ _ _ _ _ _ _ _ _ _)
      | (with_reducible exact rtt_Timeout.mono _ _ _ _ _ _ _ _)
      | (with_reducible exact rtt_Update.mono _ _ _ _ _ _ _ _ _)
      | (with_reducible exact wigwaglaw08_awake.mono _)
      | (with_reducible exact LeO.refl _)
      | (with_reducible exact LeO.none _)
      | (with_reducible refine LeO.ite ?_ ?_)
      | (with_reducible refine LeO.bind ?_ (fun _ => ?_))
      | exact ih0 _ _ _ _ _ _ _ _ _ _ _ _
      | exact ih1 _ _ _ _ _ _ _ _ _ _ _ _ _
      | exact rtt_Timeout.mono _ _ _ _ _ _ _ _
      | exact rtt_Update.mono _ _ _ _ _ _ _ _ _
      | exact wigwaglaw08_awake.mono _
      | exact LeO.none _
      | refine LeO.ite ?_ ?_
      | refine LeO.bind ?_ (fun _ => ?_)
theorem wigwaglaw08_RttLow.mono : ∀ a0 a1 a2 k, LeO (wigwaglaw08_RttLow.f k a0 a1 a2) (wigwaglaw08_RttLow.f (k + 1) a0 a1 a2) := by
  intro a0 a1 a2 k
  obtain ⟨ih0, ih1⟩ := wigwaglaw08_RttLow.mono_l k
  unfold wigwaglaw08_RttLow.f
  repeat' first
      | (with_reducible exact ih0 _ _ _ _ _ _ _ _ _ _ _ _)
      | (with_reducible exact ih1 _ _ _ _ _ _ _ _ _ _ _ _ _)
      | (with_reducible exact rtt_Timeout.mono _ _ _ _ _ _ _ _)
      | (with_reducible exact rtt_Update.mono _ _ _ _ _ _ _ _ _)
      | (with_reducible exact wigwaglaw08_awake.mono _)
      | (with_reducible exact LeO.refl _)
      | (with_reducible exact LeO.none _)
      | (with_reducible refine LeO.ite ?_ ?_)
      | (with_reducible refine LeO.bind ?_ (fun _ => ?_))
      | exact ih0 _ _ _ _ _ _ _ _ _ _ _ _
      | exact ih1 _ _ _ _ _ _ _ _ _ _ _ _ _
      | exact rtt_Timeout.mono _ _ _ _ _ _ _ _
      | exact rtt_Update.mono _ _ _ _ _ _ _ _ _
      | exact wigwaglaw08_awake.mono _
      | exact LeO.none _
      | refine LeO.ite ?_ ?_
      | refine LeO.bind ?_ (fun _ => ?_)
def wigwaglaw08_RttLow.T11 : Bool × List (List Nat × List Nat) := (true, [([], []), ([], []), ([], []), ([], []), ([2, 3], [2, 3]), ([4], [4]), ([5], [5]), ([], []), ([7], [7]), ([0, 1, 6, 8], [0, 1, 6, 8]), ([9, 9, 0, 1, 2, 3, 4, 5, 6, 7, 8, 9], [9])])
def wigwaglaw08_RttLow.B11 : List Nat := [0, 0, 0, 0, 12, 28, 60, 0, 128, 511, 1023]
theorem wigwaglaw08_RttLow.tab11 : rtab .any (opsOf Try.f4 11) = wigwaglaw08_RttLow.T11 := by kernel_rfl
theorem wigwaglaw08_RttLow.bits11 : waitsOk wigwaglaw08_RttLow.T11.2 wigwaglaw08_RttLow.B11 = true := by kernel_rfl
set_option maxHeartbeats 8000000 in
set_option maxRecDepth 100000 in
theorem wigwaglaw08_RttLow.calls (k : Nat) (A0 : Option Addr) (c0 : Nat) (l0 : List Int) (A1 : Option Addr) (c1 : Nat) (l1 : List Int) (a2 : Int) (r : Bool) (w : World) (hr0 : Kd.C (Kd.int .u32) w A0 l0.length l0) (hc0 : l0.length ≤ c0) (hr1 : Kd.C (Kd.int .u32) w A1 l1.length l1) (hc1 : l1.length ≤ c1) (h : wigwaglaw08_RttLow.f k l0 l1 a2 = some r) :
    Calls Try.prog 4 #[.slice A0 l0.length c0, .slice A1 l1.length c1, .int .u32 a2] w fun e w' => e = .returned (.bool r) ∧ Below w.heap.size w w' := by
  have hu24 := Try.underlying24
  have HR0 := Aside0.mk hr0
  have HC0 := Aside0.mk hc0
  clear hr0 hc0
  have HR1 := Aside0.mk hr1
  have HC1 := Aside0.mk hc1
  clear hr1 hc1
  have HB := Aside0.mk (Below.refl w.heap.size w)
  have H : ((wigwaglaw08_awake.f k).bind fun t161 => (if (l0.length : Int) > 100 then (some t161) else (wigwaglaw08_RttLow.l0 k l0 l1 a2 t161 18446744073709551615 0 0 false 0 0 0 0))) = some r := h
  clear h
  replace H := Option.bind_eq_some_iff.mp H
  obtain ⟨t161, A40, H⟩ := H
  replace H : (if (l0.length : Int) > 100 then (some t161) else (wigwaglaw08_RttLow.l0 k l0 l1 a2 t161 18446744073709551615 0 0 false 0 0 0 0)) = some r := H
  have A4 := Aside0.mk A40
  clear A40
  by_cases c5 : (l0.length : Int) > 100
  · rw [if_pos c5] at H
    have c5b0 : decide (100 < (l0.length : Int)) = true := decide_eq_true c5
    have c5b1 : decide (100 < l0.length) = true := decide_eq_true (by omega)
    clear c5
    obtain rfl := Option.some.inj H
    go_enter Try.func4, Try.ntmps4
    go_wp2_with (first | ((with_reducible refine gate_callee (f := 8) rfl ?_); refine goesL_ (some 13) rfl rfl Try.func8 (by kernel_rfl) rfl #[] rfl (by (try simp only [List.map_toArray, List.map_cons, List.map_nil]); first | done | rfl | (simp only [List.length_drop, List.length_take]; rfl)) ?_; (with_reducible refine (wigwaglaw08_awake.calls k  t161 _ A4.out).mono ?_); rintro e w6 ⟨rfl, hb⟩; refine ⟨_, rfl, ?_⟩; have n0_ := Aside0.mk (below_step (by repeat (first | (with_reducible first | exact HB.out | apply below_alloc | apply pw_below_drewN | apply below_drew1) | exact HB.out)) hb); clear HB; have HB := n0_; clear n0_; (try clear hb); (try clear hb2); (try clear hk); (try clear hi)))
    go_ret
    exact ⟨by first | rfl | (simp [errW_none, errW_some] <;> rfl) | (simp [*, errW_none, errW_some] <;> rfl), by repeat (first | (with_reducible first | exact HB.out | apply below_alloc | apply pw_below_drewN | apply below_drew1) | exact HB.out)⟩
  · rw [if_neg c5] at H
    have c5b0 : decide (100 < (l0.length : Int)) = false := decide_eq_false c5
    have c5b1 : decide (100 < l0.length) = false := decide_eq_false (by omega)
    clear c5
    have H' := Aside0.mk H
    clear H
    go_enter Try.func4, Try.ntmps4
    go_wp2_with (first | ((with_reducible refine gate_callee (f := 8) rfl ?_); refine goesL_ (some 13) rfl rfl Try.func8 (by kernel_rfl) rfl #[] rfl (by (try simp only [List.map_toArray, List.map_cons, List.map_nil]); first | done | rfl | (simp only [List.length_drop, List.length_take]; rfl)) ?_; (with_reducible refine (wigwaglaw08_awake.calls k  t161 _ A4.out).mono ?_); rintro e w7 ⟨rfl, hb⟩; refine ⟨_, rfl, ?_⟩; have n0_ := Aside0.mk (below_step (by repeat (first | (with_reducible first | exact HB.out | apply below_alloc | apply pw_below_drewN | apply below_drew1) | exact HB.out)) hb); clear HB; have HB := n0_; clear n0_; (try clear hb); (try clear hb2); (try clear hk); (try clear hi)) | ((with_reducible refine gate_dst (N := 8) rfl ?_); (try (refine gate_guard (by rfl) ?_; dsimp only)); refine box_event ?hg (N := 8) ?hd (cs := #[.bool false, .int .u64 0, .int .u64 0, .int .u64 0, .int .u64 0]) (t := 24) ?hr ?_; (case hd => rfl); (case hg => rfl); (case hr => first | (go_simp; done) | (go_simp; rfl)); intro gb162 hg w8 hbox hb; have n0_ := Aside0.mk (below_step (by repeat (first | (with_reducible first | exact HB.out | apply below_alloc | apply pw_below_drewN | apply below_drew1) | exact HB.out)) hb); have n1_ := Aside0.mk (hbox); have n2_ := Aside0.mk ((by rw [hg]; exact (below_size (by repeat (first | (with_reducible first | exact HB.out | apply below_alloc | apply pw_below_drewN | apply below_drew1) | exact HB.out))) : w.heap.size ≤ gb162)); have n3_ := Aside0.mk ((by rw [hg]; exact (below_size (by repeat (first | (with_reducible first | exact HB.out | apply below_alloc | apply pw_below_drewN | apply below_drew1) | exact HB.out))) : w.heap.size ≤ gb162)); clear HB; have HB := n0_; have BK162 := n1_; have GW162 := n2_; have GE162 := n3_; clear n0_ n1_ n2_ n3_; clear hb hbox hg))
    go_loopg [9, 10, 11] k (fun kq v9 v10 v11 w' => ∃ (x9_1 : Int) (x10_1 : Int) (x11_1 : Int) (x163000_1 : Bool) (x163001_1 : Int) (x163002_1 : Int) (x163003_1 : Int) (x163004_1 : Int), v9 = .int .u64 x9_1 ∧ v10 = .int .u64 x10_1 ∧ v11 = .int .i64 x11_1 ∧ Aside0 (wigwaglaw08_RttLow.l0 kq l0 l1 a2 t161 x9_1 x10_1 x11_1 x163000_1 x163001_1 x163002_1 x163003_1 x163004_1 = some r) ∧ Aside0 (kq ≤ k) ∧ Aside0 (w'.heap[gb162]? = some (.cells #[.bool x163000_1, .int .u64 x163001_1, .int .u64 x163002_1, .int .u64 x163003_1, .int .u64 x163004_1] 24 (0, 0))) ∧ Aside0 (Below w.heap.size w w'))
    case atStart => exact ⟨(18446744073709551615), (0), (0), (false), (0), (0), (0), (0), (by first | rfl | (simp; done) | (simp [*]; done)), (by first | rfl | (simp; done) | (simp [*]; done)), (by first | rfl | (simp; done) | (simp [*]; done)), H', ⟨Nat.le_refl _⟩, ⟨by (with_reducible repeat (first | refine blk_drewN ?_ _ | refine blk_drew ?_ | refine blk_alloc ?_ _)); exact BK162.out⟩, ⟨by repeat (first | (with_reducible first | exact HB.out | apply below_alloc | apply pw_below_drewN | apply below_drew1 | refine below_set ?_ GE162.out) | exact HB.out)⟩⟩
    case round =>
      clear H'
      try clear c1
      try clear p2
      try clear c4
      try clear c5
      try clear c5b0
      try clear c5b1
      try clear c8
      obtain ⟨x9_1, x10_1, x11_1, x163000_1, x163001_1, x163002_1, x163003_1, x163004_1, rfl, rfl, rfl, HA, HK1, BK162, HB⟩ := hrel
      cases gk with
      | zero => exact absurd HA.out (by simp [wigwaglaw08_RttLow.l0])
      | succ k1 =>
        have H := HA.out
        clear HA
        simp only [wigwaglaw08_RttLow.l0] at H
        have HC9 := Aside0.mk H
        clear H
        go_upto_region 8 with (fail)
        go_cut [27] (fun v27 wc => ∃ (kq : Nat) (x27_8 : Bool), v27 = .bool x27_8 ∧ Aside0 (wigwaglaw08_RttLow.j1 kq l0 l1 a2 t161 x9_1 x10_1 x11_1 x27_8 x163000_1 x163001_1 x163002_1 x163003_1 x163004_1 = some r) ∧ Aside0 (kq ≤ k1) ∧ Aside0 (wc.heap[gb162]? = some (.cells #[.bool x163000_1, .int .u64 x163001_1, .int .u64 x163002_1, .int .u64 x163003_1, .int .u64 x163004_1] 24 (0, 0))) ∧ Aside0 (Below w.heap.size w wc))
        case first =>
          have H := HC9.out
          clear HC9
          by_cases c10 : x11_1 < (l0.length : Int)
          · rw [if_pos c10] at H
            have c10b0 : decide (x11_1 < (l0.length : Int)) = true := decide_eq_true c10
            clear c10
            (first | rw [c10b0] | (simp only [i64_w, i32_w]; rw [c10b0]) | skip)
            have H' := Aside0.mk H
            clear H
            go_wp2
            go_meet
            case rel => exact ⟨_, (decide (x11_1 < (l1.length : Int))), (by first | rfl | (simp; done) | (simp [*]; done)), H', ⟨by have := HK1.out; first | omega | exact Nat.le_refl _⟩, ⟨by (with_reducible repeat (first | refine blk_drewN ?_ _ | refine blk_drew ?_ | refine blk_alloc ?_ _)); exact BK162.out⟩, ⟨by repeat (first | (with_reducible first | exact HB.out | apply below_alloc | apply pw_below_drewN | apply below_drew1 | refine below_set ?_ GE162.out) | exact HB.out)⟩⟩
          · rw [if_neg c10] at H
            have c10b0 : decide (x11_1 < (l0.length : Int)) = false := decide_eq_false c10
            clear c10
            (first | rw [c10b0] | (simp only [i64_w, i32_w]; rw [c10b0]) | skip)
            have H' := Aside0.mk H
            clear H
            go_wp2
            go_meet
            case rel => exact ⟨_, (false), (by first | rfl | (simp; done) | (simp [*]; done)), H', ⟨by have := HK1.out; first | omega | exact Nat.le_refl _⟩, ⟨by (with_reducible repeat (first | refine blk_drewN ?_ _ | refine blk_drew ?_ | refine blk_alloc ?_ _)); exact BK162.out⟩, ⟨by repeat (first | (with_reducible first | exact HB.out | apply below_alloc | apply pw_below_drewN | apply below_drew1 | refine below_set ?_ GE162.out) | exact HB.out)⟩⟩
        case rest =>
          clear HC9
          try clear c1
          try clear p2
          try clear c4
          try clear c5
          try clear c5b0
          try clear c5b1
          try clear c8
          try clear c10
          try clear c10b0
          try clear p2
          obtain ⟨kq, x27_8, rfl, HA, HJ8, BK162, HB⟩ := hcut
          cases kq with
          | zero => exact absurd HA.out (by simp [wigwaglaw08_RttLow.j1])
          | succ kj8 =>
            have H := HA.out
            clear HA
            simp only [wigwaglaw08_RttLow.j1] at H
            by_cases c11 : x27_8 = true
            · subst c11
              have H1 : (if 0 ≤ x11_1 then (if x11_1 < (l0.length : Int) then (if x11_1 < (l1.length : Int) then ((rtt_Update.f kj8 x163000_1 x163001_1 x163002_1 x163003_1 x163004_1 (IntKind.u64.wrap (rd l0 x11_1)) (IntKind.u64.wrap (rd l1 x11_1)) (IntKind.u64.wrap (a2))).bind fun bt165 => (if bt165.1 = true then (if bt165.2.2.1 = (mn x9_1 (IntKind.u64.wrap (rd l0 x11_1))) then (if bt165.2.1 = (IntKind.u64.wrap (rd l0 x11_1)) then (if bt165.2.2.2.1 > (mx x10_1 (IntKind.u64.wrap (rd l0 x11_1))) then (some false) else (if bt165.2.2.2.2 > (mx x10_1 (IntKind.u64.wrap (rd l0 x11_1))) then (some false) else ((rtt_Timeout.f kj8 bt165.1 bt165.2.1 bt165.2.2.1 bt165.2.2.2.1 bt165.2.2.2.2 (IntKind.u64.wrap (a2)) 0).bind fun t170 => (if t170 ≤ (IntKind.u64.wrap (a2)) then (some false) else (wigwaglaw08_RttLow.l0 kj8 l0 l1 a2 t161 (mn x9_1 (IntKind.u64.wrap (rd l0 x11_1))) (mx x10_1 (IntKind.u64.wrap (rd l0 x11_1))) (wrap64 (x11_1 + 1)) bt165.1 bt165.2.1 bt165.2.2.1 bt165.2.2.2.1 bt165.2.2.2.2))))) else (some false)) else (some false)) else (some false))) else (none)) else (none)) else (none)) = some r := by rw [if_pos rfl] at H; exact H
              clear H
              have H := H1
              clear H1
              by_cases c12 : 0 ≤ x11_1
              · rw [if_pos c12] at H
                have c12b0 : decide (0 ≤ x11_1) = true := decide_eq_true c12
                clear c12
                by_cases c13 : x11_1 < (l0.length : Int)
                · rw [if_pos c13] at H
                  have c13b0 : decide (x11_1 < (l0.length : Int)) = true := decide_eq_true c13
                  clear c13
                  by_cases c14 : x11_1 < (l1.length : Int)
                  · rw [if_pos c14] at H
                    have c14b0 : decide (x11_1 < (l1.length : Int)) = true := decide_eq_true c14
                    clear c14
                    replace H := Option.bind_eq_some_iff.mp H
                    obtain ⟨⟨t165, t166, t167, t168, t169⟩, A150, H⟩ := H
                    replace H : (if t165 = true then (if t167 = (mn x9_1 (IntKind.u64.wrap (rd l0 x11_1))) then (if t166 = (IntKind.u64.wrap (rd l0 x11_1)) then (if t168 > (mx x10_1 (IntKind.u64.wrap (rd l0 x11_1))) then (some false) else (if t169 > (mx x10_1 (IntKind.u64.wrap (rd l0 x11_1))) then (some false) else ((rtt_Timeout.f kj8 t165 t166 t167 t168 t169 (IntKind.u64.wrap (a2)) 0).bind fun t170 => (if t170 ≤ (IntKind.u64.wrap (a2)) then (some false) else (wigwaglaw08_RttLow.l0 kj8 l0 l1 a2 t161 (mn x9_1 (IntKind.u64.wrap (rd l0 x11_1))) (mx x10_1 (IntKind.u64.wrap (rd l0 x11_1))) (wrap64 (x11_1 + 1)) t165 t166 t167 t168 t169))))) else (some false)) else (some false)) else (some false)) = some r := H
                    have A15 := Aside0.mk A150
                    clear A150
                    obtain ⟨ji16, hji16⟩ : ∃ j_ : Int, (mn x9_1 (IntKind.u64.wrap (rd l0 x11_1))) = j_ := ⟨_, rfl⟩
                    replace H : (if t165 = true then (if t167 = (ji16) then (if t166 = (IntKind.u64.wrap (rd l0 x11_1)) then (if t168 > (mx x10_1 (IntKind.u64.wrap (rd l0 x11_1))) then (some false) else (if t169 > (mx x10_1 (IntKind.u64.wrap (rd l0 x11_1))) then (some false) else ((rtt_Timeout.f kj8 t165 t166 t167 t168 t169 (IntKind.u64.wrap (a2)) 0).bind fun t170 => (if t170 ≤ (IntKind.u64.wrap (a2)) then (some false) else (wigwaglaw08_RttLow.l0 kj8 l0 l1 a2 t161 ji16 (mx x10_1 (IntKind.u64.wrap (rd l0 x11_1))) (wrap64 (x11_1 + 1)) t165 t166 t167 t168 t169))))) else (some false)) else (some false)) else (some false)) = some r := by first | (rw [hji16] at H; exact H) | (simp only [hji16] at H ⊢; exact H)
                    (try rw [hji16] at A15)
                    have hji16_ : (if (IntKind.u64.wrap (rd l0 x11_1)) < x9_1 then (IntKind.u64.wrap (rd l0 x11_1)) else x9_1) = ji16 := hji16
                    obtain ⟨ji17, hji17⟩ : ∃ j_ : Int, (mx x10_1 (IntKind.u64.wrap (rd l0 x11_1))) = j_ := ⟨_, rfl⟩
                    replace H : (if t165 = true then (if t167 = (ji16) then (if t166 = (IntKind.u64.wrap (rd l0 x11_1)) then (if t168 > (ji17) then (some false) else (if t169 > (ji17) then (some false) else ((rtt_Timeout.f kj8 t165 t166 t167 t168 t169 (IntKind.u64.wrap (a2)) 0).bind fun t170 => (if t170 ≤ (IntKind.u64.wrap (a2)) then (some false) else (wigwaglaw08_RttLow.l0 kj8 l0 l1 a2 t161 ji16 ji17 (wrap64 (x11_1 + 1)) t165 t166 t167 t168 t169))))) else (some false)) else (some false)) else (some false)) = some r := by first | (rw [hji17] at H; exact H) | (simp only [hji17] at H ⊢; exact H)
                    (try rw [hji17] at A15)
                    have hji17_ : (if x10_1 < (IntKind.u64.wrap (rd l0 x11_1)) then (IntKind.u64.wrap (rd l0 x11_1)) else x10_1) = ji17 := hji17
                    have HS18 := Aside0.mk H
                    clear H
                    have p163 : 0 ≤ (x11_1 : Int) := of_decide_eq_true (by first | (with_reducible assumption) | assumption)
                    have q163 : x11_1 < (l0.length : Int) := of_decide_eq_true (by first | (with_reducible assumption) | assumption)
                    obtain ⟨ad163, e163, hx163_0⟩ := Kd.at_int HR0.out x11_1 p163 q163
                    cases e163
                    replace hx163_0 := (HB.out.cell (World.block_lt_of_cell? w _ hx163_0)).trans hx163_0
                    replace p163 := eq_true p163
                    replace q163 := eq_true q163
                    try go_wp2
                    have n0_ := Aside0.mk (blk_drew BK162.out)
                    have n1_ := Aside0.mk (below_drew1 HB.out)
                    clear BK162
                    clear HB
                    have BK162 := n0_
                    have HB := n1_
                    clear n0_ n1_
                    have p164 : 0 ≤ (x11_1 : Int) := of_decide_eq_true (by first | (with_reducible assumption) | assumption)
                    have q164 : x11_1 < (l1.length : Int) := of_decide_eq_true (by first | (with_reducible assumption) | assumption)
                    obtain ⟨ad164, e164, hx164_0⟩ := Kd.at_int HR1.out x11_1 p164 q164
                    have hw164_0 := hx164_0
                    cases e164
                    replace hx164_0 := (HB.out.cell (World.block_lt_of_cell? w _ hx164_0)).trans hx164_0
                    replace p164 := eq_true p164
                    replace q164 := eq_true q164
                    refine start_ (n := 11) (S := fun w' => w'.cell? ⟨gb162, 0, none⟩ = some (.bool x163000_1) ∧ w'.cell? ⟨gb162, 1, none⟩ = some (.int .u64 x163001_1) ∧ w'.cell? ⟨gb162, 2, none⟩ = some (.int .u64 x163002_1) ∧ w'.cell? ⟨gb162, 3, none⟩ = some (.int .u64 x163003_1) ∧ w'.cell? ⟨gb162, 4, none⟩ = some (.int .u64 x163004_1) ∧ w'.cell? (ad164.add (x11_1).toNat) = some (.int .u32 (rd l1 x11_1))) (ds := [10]) #[false, false, false, false, false, false, false, false, false, false, false] (by kernel_rfl) rfl rfl ⟨(blk_cell BK162.out 0).trans rfl, (blk_cell BK162.out 1).trans rfl, (blk_cell BK162.out 2).trans rfl, (blk_cell BK162.out 3).trans rfl, (blk_cell BK162.out 4).trans rfl, ((HB.out.cell (World.block_lt_of_cell? w _ hw164_0)).trans hw164_0)⟩ (fun hHeld => ?_); refine with_tabW wigwaglaw08_RttLow.tab11 wigwaglaw08_RttLow.bits11 (fun HT_ HW_ => ?_)
                    generalize wc.drew = w19 at BK162 HB hx164_0 hHeld ⊢
                    refine pure_ (i := 1) (N := some 36) (v := ?_) (a' := ?_) #[false, true, false, false, false, false, false, false, false, false, false] rfl rfl (any_of HT_.out (by kernel_rfl)) (fun _ _ _ h => h) (Or.inl ⟨by rfl, ?_⟩) ?_ ?_
                    rotate_left
                    · intro w'
                      go_simp
                      with_reducible rfl
                    rotate_left
                    · simp only [Act.put, List.setIfInBounds_toArray, List.set_cons_zero, List.set_cons_succ, i64_w, i32_w]
                      rfl
                    refine pure_ (i := 2) (N := some 37) (v := ?_) (a' := ?_) #[false, true, true, false, false, false, false, false, false, false, false] rfl rfl (any_of HT_.out (by kernel_rfl)) (fun _ _ _ h => h) (Or.inl ⟨by rfl, ?_⟩) ?_ ?_
                    rotate_left
                    · intro w'
                      go_simp
                      with_reducible rfl
                    rotate_left
                    · simp only [Act.put, List.setIfInBounds_toArray, List.set_cons_zero, List.set_cons_succ, i64_w, i32_w]
                      rfl
                    refine pure_ (i := 3) (N := some 38) (v := ?_) (a' := ?_) #[false, true, true, true, false, false, false, false, false, false, false] rfl rfl (any_of HT_.out (by kernel_rfl)) (fun _ _ _ h => h) (Or.inl ⟨by rfl, ?_⟩) ?_ ?_
                    rotate_left
                    · intro w'
                      go_simp
                      with_reducible rfl
                    rotate_left
                    · simp only [Act.put, List.setIfInBounds_toArray, List.set_cons_zero, List.set_cons_succ, i64_w, i32_w]
                      rfl
                    refine pure_ (i := 4) (N := some 39) (v := ?_) (a' := ?_) #[false, true, true, true, true, false, false, false, false, false, false] rfl rfl (any_of HT_.out (by kernel_rfl)) (fun _ _ _ h => h) (Or.inl ⟨by rfl, ?_⟩) ?_ ?_
                    rotate_left
                    · intro w'
                      go_simp
                      with_reducible rfl
                    rotate_left
                    · simp only [Act.put, List.setIfInBounds_toArray, List.set_cons_zero, List.set_cons_succ, i64_w, i32_w]
                      rfl
                    refine pure_ (i := 7) (N := some 42) (v := ?_) (a' := ?_) #[false, true, true, true, true, false, false, true, false, false, false] rfl rfl (any_of HT_.out (by kernel_rfl)) (fun _ _ _ h => h) (Or.inl ⟨by rfl, ?_⟩) ?_ ?_
                    rotate_left
                    · intro w'
                      go_simp
                      with_reducible rfl
                    rotate_left
                    · simp only [Act.put, List.setIfInBounds_toArray, List.set_cons_zero, List.set_cons_succ, i64_w, i32_w]
                      rfl
                    refine pure_ (i := 8) (N := some 43) (v := ?_) (a' := ?_) #[false, true, true, true, true, false, false, true, true, false, false] rfl rfl (any_of HT_.out (by kernel_rfl)) (fun _ _ _ h => h) (Or.inl ⟨by rfl, ?_⟩) ?_ ?_
                    rotate_left
                    · intro w'
                      go_simp
                      with_reducible rfl
                    rotate_left
                    · simp only [Act.put, List.setIfInBounds_toArray, List.set_cons_zero, List.set_cons_succ, i64_w, i32_w]
                      rfl
                    refine take_ (i := 0) (N := some 35) (v := ?_) (a' := ?_) #[true, true, true, true, true, false, false, true, true, false, false] rfl rfl (take_ofW HT_.out HW_.out (by kernel_rfl)) (fun _ _ _ h => h) (Or.inl ⟨by rfl, ?_⟩) hHeld ?_ ?_
                    rotate_left
                    · rintro w' ⟨s0, s1, s2, s3, s4, s5⟩
                      go_simp
                      with_reducible rfl
                    rotate_left
                    · simp only [Act.put, List.setIfInBounds_toArray, List.set_cons_zero, List.set_cons_succ, i64_w, i32_w]
                      rfl
                    refine take_ (i := 5) (N := some 40) (v := ?_) (a' := ?_) #[true, true, true, true, true, true, false, true, true, false, false] rfl rfl (take_ofW HT_.out HW_.out (by kernel_rfl)) (fun _ _ _ h => h) (Or.inl ⟨by rfl, ?_⟩) hHeld ?_ ?_
                    rotate_left
                    · rintro w' ⟨s0, s1, s2, s3, s4, s5⟩
                      go_simp
                      with_reducible rfl
                    rotate_left
                    · simp only [Act.put, List.setIfInBounds_toArray, List.set_cons_zero, List.set_cons_succ, i64_w, i32_w]
                      rfl
                    refine pure_ (i := 6) (N := some 41) (v := ?_) (a' := ?_) #[true, true, true, true, true, true, true, true, true, false, false] rfl rfl (any_of HT_.out (by kernel_rfl)) (fun _ _ _ h => h) (Or.inl ⟨by rfl, ?_⟩) ?_ ?_
                    rotate_left
                    · intro w'
                      go_simp
                      with_reducible rfl
                    rotate_left
                    · simp only [Act.put, List.setIfInBounds_toArray, List.set_cons_zero, List.set_cons_succ, i64_w, i32_w]
                      rfl
                    refine one_ (i := 9) (N := some 44) #[true, true, true, true, true, true, true, true, true, true, false] rfl rfl (one_of HT_.out (by kernel_rfl)) (by decide) (fun K hK => ?_)
                    refine goes_ Try.func9 (by kernel_rfl) rfl #[.agg #[.bool x163000_1, .int .u64 x163001_1, .int .u64 x163002_1, .int .u64 x163003_1, .int .u64 x163004_1], .int .u64 (IntKind.u64.wrap (rd l0 x11_1)), .int .u64 (IntKind.u64.wrap (rd l1 x11_1)), .int .u64 (IntKind.u64.wrap (a2))] (by rfl) rfl rfl (by (try simp only [List.map_toArray, List.map_cons, List.map_nil]); first | done | rfl | (simp only [List.length_drop, List.length_take]; rfl)) ?_
                    with_reducible refine (rtt_Update.calls kj8 x163000_1 x163001_1 x163002_1 x163003_1 x163004_1 (IntKind.u64.wrap (rd l0 x11_1)) (IntKind.u64.wrap (rd l1 x11_1)) (IntKind.u64.wrap (a2)) t165 t166 t167 t168 t169 _ A15.out).mono ?_
                    rintro e w20 ⟨rfl, hb⟩
                    refine ⟨_, rfl, ?_⟩
                    have n0_ := Aside0.mk (blk_below (g := gb162) (o := .cells #[.bool x163000_1, .int .u64 x163001_1, .int .u64 x163002_1, .int .u64 x163003_1, .int .u64 x163004_1] 24 (0, 0)) (by (with_reducible repeat (first | refine blk_drewN ?_ _ | refine blk_drew ?_ | refine blk_alloc ?_ _)); exact BK162.out) hb)
                    have n1_ := Aside0.mk (below_step (by repeat (first | (with_reducible first | exact HB.out | apply below_alloc | apply pw_below_drewN | apply below_drew1 | refine below_set ?_ GE162.out) | exact HB.out)) hb)
                    clear BK162
                    clear HB
                    have BK162 := n0_
                    have HB := n1_
                    clear n0_ n1_
                    (try clear hb)
                    (try clear hb2)
                    (try clear hk)
                    (try clear hi)
                    refine hK.out _ _ ⟨(blk_cell BK162.out 0).trans rfl, (blk_cell BK162.out 1).trans rfl, (blk_cell BK162.out 2).trans rfl, (blk_cell BK162.out 3).trans rfl, (blk_cell BK162.out 4).trans rfl, ((HB.out.cell (World.block_lt_of_cell? w _ hw164_0)).trans hw164_0)⟩ (fun hHeld => ?_)
                    clear hK K
                    refine norm_ (a' := ?_) ?_ ?_
                    rotate_left
                    · show Act.put _ (some 44) _ = _
                      simp only [Act.put, List.setIfInBounds_toArray, List.set_cons_zero, List.set_cons_succ, i64_w, i32_w]
                      rfl
                    refine last_ (i := 10) (N := none) #[true, true, true, true, true, true, true, true, true, true, true] rfl rfl (one_of HT_.out (by kernel_rfl)) (by decide) (fun K hK => ?_)
                    have hs21 : w20.cell? ⟨gb162, 0, none⟩ = some (.bool x163000_1) := (blk_cell BK162.out 0).trans rfl
                    have hfs21 := blk_frozen BK162.out 0
                    have hs22 : w20.cell? ⟨gb162, 1, none⟩ = some (.int .u64 x163001_1) := (blk_cell BK162.out 1).trans rfl
                    have hfs22 := blk_frozen BK162.out 1
                    have hs23 : w20.cell? ⟨gb162, 2, none⟩ = some (.int .u64 x163002_1) := (blk_cell BK162.out 2).trans rfl
                    have hfs23 := blk_frozen BK162.out 2
                    have hs24 : w20.cell? ⟨gb162, 3, none⟩ = some (.int .u64 x163003_1) := (blk_cell BK162.out 3).trans rfl
                    have hfs24 := blk_frozen BK162.out 3
                    have hs25 : w20.cell? ⟨gb162, 4, none⟩ = some (.int .u64 x163004_1) := (blk_cell BK162.out 4).trans rfl
                    have hfs25 := blk_frozen BK162.out 4
                    refine skip_ (w1 := ?_) (by rfl) rfl ?_ ?_
                    rotate_left
                    · go_simp
                      rfl
                    refine hK.out _ _ ?_
                    clear hK K
                    refine done_ (done_of HT_.out (by kernel_rfl)) ?_
                    go_upto_region 14 with (fail)
                    (try simp only [Act.put, List.setIfInBounds_toArray, List.set_cons_zero, List.set_cons_succ])
                    have H := HS18.out
                    clear HS18
                    by_cases c26 : t165 = true
                    · subst c26
                      have H1 : (if t167 = (ji16) then (if t166 = (IntKind.u64.wrap (rd l0 x11_1)) then (if t168 > (ji17) then (some false) else (if t169 > (ji17) then (some false) else ((rtt_Timeout.f kj8 true t166 t167 t168 t169 (IntKind.u64.wrap (a2)) 0).bind fun t170 => (if t170 ≤ (IntKind.u64.wrap (a2)) then (some false) else (wigwaglaw08_RttLow.l0 kj8 l0 l1 a2 t161 ji16 ji17 (wrap64 (x11_1 + 1)) true t166 t167 t168 t169))))) else (some false)) else (some false)) = some r := by rw [if_pos rfl] at H; exact H
                      clear H
                      have H := H1
                      clear H1
                      by_cases c27 : t167 = (ji16)
                      · rw [if_pos c27] at H
                        have c27b0 : (t167 == (ji16)) = true := beq_iff_eq.mpr c27
                        have c27b1 : (t167 != (ji16)) = false := bne_eq_false_iff_eq.mpr c27
                        clear c27
                        by_cases c28 : t166 = (IntKind.u64.wrap (rd l0 x11_1))
                        · rw [if_pos c28] at H
                          have c28b0 : (t166 == (IntKind.u64.wrap (rd l0 x11_1))) = true := beq_iff_eq.mpr c28
                          have c28b1 : (t166 != (IntKind.u64.wrap (rd l0 x11_1))) = false := bne_eq_false_iff_eq.mpr c28
                          clear c28
                          by_cases c29 : t168 > (ji17)
                          · rw [if_pos c29] at H
                            have c29b0 : decide ((ji17) < t168) = true := decide_eq_true c29
                            clear c29
                            obtain rfl := Option.some.inj H
                            have hcz30_0 : w20.cell? ⟨gb162, 0, none⟩ = some (.bool x163000_1) := (blk_cell BK162.out 0).trans rfl
                            have hcz30_1 : w20.cell? ⟨gb162, 1, none⟩ = some (.int .u64 x163001_1) := (blk_cell BK162.out 1).trans rfl
                            have hcz30_2 : w20.cell? ⟨gb162, 2, none⟩ = some (.int .u64 x163002_1) := (blk_cell BK162.out 2).trans rfl
                            have hcz30_3 : w20.cell? ⟨gb162, 3, none⟩ = some (.int .u64 x163003_1) := (blk_cell BK162.out 3).trans rfl
                            have hcz30_4 : w20.cell? ⟨gb162, 4, none⟩ = some (.int .u64 x163004_1) := (blk_cell BK162.out 4).trans rfl
                            have hfz30_0 := blk_frozen BK162.out 0
                            have hfz30_1 := blk_frozen BK162.out 1
                            have hfz30_2 := blk_frozen BK162.out 2
                            have hfz30_3 := blk_frozen BK162.out 3
                            have hfz30_4 := blk_frozen BK162.out 4
                            go_wp2
                            go_ret
                            exact ⟨by first | rfl | (simp [errW_none, errW_some] <;> rfl) | (simp only [← hji16, ← hji17]; first | rfl | (simp [errW_none, errW_some] <;> rfl)) | (simp [*, errW_none, errW_some] <;> rfl), by repeat (first | (with_reducible first | exact HB.out | apply below_alloc | apply pw_below_drewN | apply below_drew1 | refine below_set ?_ GE162.out) | exact HB.out)⟩
                          · rw [if_neg c29] at H
                            have c29b0 : decide ((ji17) < t168) = false := decide_eq_false c29
                            clear c29
                            by_cases c31 : t169 > (ji17)
                            · rw [if_pos c31] at H
                              have c31b0 : decide ((ji17) < t169) = true := decide_eq_true c31
                              clear c31
                              obtain rfl := Option.some.inj H
                              have hcz32_0 : w20.cell? ⟨gb162, 0, none⟩ = some (.bool x163000_1) := (blk_cell BK162.out 0).trans rfl
                              have hcz32_1 : w20.cell? ⟨gb162, 1, none⟩ = some (.int .u64 x163001_1) := (blk_cell BK162.out 1).trans rfl
                              have hcz32_2 : w20.cell? ⟨gb162, 2, none⟩ = some (.int .u64 x163002_1) := (blk_cell BK162.out 2).trans rfl
                              have hcz32_3 : w20.cell? ⟨gb162, 3, none⟩ = some (.int .u64 x163003_1) := (blk_cell BK162.out 3).trans rfl
                              have hcz32_4 : w20.cell? ⟨gb162, 4, none⟩ = some (.int .u64 x163004_1) := (blk_cell BK162.out 4).trans rfl
                              have hfz32_0 := blk_frozen BK162.out 0
                              have hfz32_1 := blk_frozen BK162.out 1
                              have hfz32_2 := blk_frozen BK162.out 2
                              have hfz32_3 := blk_frozen BK162.out 3
                              have hfz32_4 := blk_frozen BK162.out 4
                              go_wp2
                              go_ret
                              exact ⟨by first | rfl | (simp [errW_none, errW_some] <;> rfl) | (simp only [← hji16, ← hji17]; first | rfl | (simp [errW_none, errW_some] <;> rfl)) | (simp [*, errW_none, errW_some] <;> rfl), by repeat (first | (with_reducible first | exact HB.out | apply below_alloc | apply pw_below_drewN | apply below_drew1 | refine below_set ?_ GE162.out) | exact HB.out)⟩
                            · rw [if_neg c31] at H
                              have c31b0 : decide ((ji17) < t169) = false := decide_eq_false c31
                              clear c31
                              replace H := Option.bind_eq_some_iff.mp H
                              obtain ⟨t170, A330, H⟩ := H
                              replace H : (if t170 ≤ (IntKind.u64.wrap (a2)) then (some false) else (wigwaglaw08_RttLow.l0 kj8 l0 l1 a2 t161 ji16 ji17 (wrap64 (x11_1 + 1)) true t166 t167 t168 t169)) = some r := H
                              have A33 := Aside0.mk A330
                              clear A330
                              by_cases c34 : t170 ≤ (IntKind.u64.wrap (a2))
                              · rw [if_pos c34] at H
                                have c34b0 : decide (t170 ≤ (IntKind.u64.wrap (a2))) = true := decide_eq_true c34
                                clear c34
                                obtain rfl := Option.some.inj H
                                have hcz35_0 : w20.cell? ⟨gb162, 0, none⟩ = some (.bool x163000_1) := (blk_cell BK162.out 0).trans rfl
                                have hcz35_1 : w20.cell? ⟨gb162, 1, none⟩ = some (.int .u64 x163001_1) := (blk_cell BK162.out 1).trans rfl
                                have hcz35_2 : w20.cell? ⟨gb162, 2, none⟩ = some (.int .u64 x163002_1) := (blk_cell BK162.out 2).trans rfl
                                have hcz35_3 : w20.cell? ⟨gb162, 3, none⟩ = some (.int .u64 x163003_1) := (blk_cell BK162.out 3).trans rfl
                                have hcz35_4 : w20.cell? ⟨gb162, 4, none⟩ = some (.int .u64 x163004_1) := (blk_cell BK162.out 4).trans rfl
                                have hfz35_0 := blk_frozen BK162.out 0
                                have hfz35_1 := blk_frozen BK162.out 1
                                have hfz35_2 := blk_frozen BK162.out 2
                                have hfz35_3 := blk_frozen BK162.out 3
                                have hfz35_4 := blk_frozen BK162.out 4
                                go_wp2_with (first | (go_at_call 11; (with_reducible refine (rtt_Timeout.calls kj8 true t166 t167 t168 t169 (IntKind.u64.wrap (a2)) 0 t170 _ A33.out).mono ?_); rintro e w36 ⟨rfl, hb⟩; have n0_ := Aside0.mk (blk_below (g := gb162) (o := .cells #[.bool true, .int .u64 t166, .int .u64 t167, .int .u64 t168, .int .u64 t169] 24 (0, 0)) (by (with_reducible repeat (first | refine blk_drewN ?_ _ | refine blk_drew ?_ | refine blk_alloc ?_ _)); refine blk_put (cs := #[.bool true, .int .u64 t166, .int .u64 t167, .int .u64 t168, .int .u64 x163004_1]) ?_ 4 _ rfl; (with_reducible repeat (first | refine blk_drewN ?_ _ | refine blk_drew ?_ | refine blk_alloc ?_ _)); refine blk_put (cs := #[.bool true, .int .u64 t166, .int .u64 t167, .int .u64 x163003_1, .int .u64 x163004_1]) ?_ 3 _ rfl; (with_reducible repeat (first | refine blk_drewN ?_ _ | refine blk_drew ?_ | refine blk_alloc ?_ _)); refine blk_put (cs := #[.bool true, .int .u64 t166, .int .u64 x163002_1, .int .u64 x163003_1, .int .u64 x163004_1]) ?_ 2 _ rfl; (with_reducible repeat (first | refine blk_drewN ?_ _ | refine blk_drew ?_ | refine blk_alloc ?_ _)); refine blk_put (cs := #[.bool true, .int .u64 x163001_1, .int .u64 x163002_1, .int .u64 x163003_1, .int .u64 x163004_1]) ?_ 1 _ rfl; (with_reducible repeat (first | refine blk_drewN ?_ _ | refine blk_drew ?_ | refine blk_alloc ?_ _)); refine blk_put (cs := #[.bool x163000_1, .int .u64 x163001_1, .int .u64 x163002_1, .int .u64 x163003_1, .int .u64 x163004_1]) ?_ 0 _ rfl; (with_reducible repeat (first | refine blk_drewN ?_ _ | refine blk_drew ?_ | refine blk_alloc ?_ _)); exact BK162.out) hb); have n1_ := Aside0.mk (below_step (by repeat (first | (with_reducible first | exact HB.out | apply below_alloc | apply pw_below_drewN | apply below_drew1 | refine below_set ?_ GE162.out) | exact HB.out)) hb); clear BK162; clear HB; have BK162 := n0_; have HB := n1_; clear n0_ n1_; (try clear hb); (try clear hb2); (try clear hk); (try clear hi)))
                                go_ret
                                exact ⟨by first | rfl | (simp [errW_none, errW_some] <;> rfl) | (simp only [← hji16, ← hji17]; first | rfl | (simp [errW_none, errW_some] <;> rfl)) | (simp [*, errW_none, errW_some] <;> rfl), by repeat (first | (with_reducible first | exact HB.out | apply below_alloc | apply pw_below_drewN | apply below_drew1 | refine below_set ?_ GE162.out) | exact HB.out)⟩
                              · rw [if_neg c34] at H
                                have c34b0 : decide (t170 ≤ (IntKind.u64.wrap (a2))) = false := decide_eq_false c34
                                clear c34
                                have H' := Aside0.mk H
                                clear H
                                have hcz37_0 : w20.cell? ⟨gb162, 0, none⟩ = some (.bool x163000_1) := (blk_cell BK162.out 0).trans rfl
                                have hcz37_1 : w20.cell? ⟨gb162, 1, none⟩ = some (.int .u64 x163001_1) := (blk_cell BK162.out 1).trans rfl
                                have hcz37_2 : w20.cell? ⟨gb162, 2, none⟩ = some (.int .u64 x163002_1) := (blk_cell BK162.out 2).trans rfl
                                have hcz37_3 : w20.cell? ⟨gb162, 3, none⟩ = some (.int .u64 x163003_1) := (blk_cell BK162.out 3).trans rfl
                                have hcz37_4 : w20.cell? ⟨gb162, 4, none⟩ = some (.int .u64 x163004_1) := (blk_cell BK162.out 4).trans rfl
                                have hfz37_0 := blk_frozen BK162.out 0
                                have hfz37_1 := blk_frozen BK162.out 1
                                have hfz37_2 := blk_frozen BK162.out 2
                                have hfz37_3 := blk_frozen BK162.out 3
                                have hfz37_4 := blk_frozen BK162.out 4
                                go_wp2_with (first | (go_at_call 11; (with_reducible refine (rtt_Timeout.calls kj8 true t166 t167 t168 t169 (IntKind.u64.wrap (a2)) 0 t170 _ A33.out).mono ?_); rintro e w38 ⟨rfl, hb⟩; have n0_ := Aside0.mk (blk_below (g := gb162) (o := .cells #[.bool true, .int .u64 t166, .int .u64 t167, .int .u64 t168, .int .u64 t169] 24 (0, 0)) (by (with_reducible repeat (first | refine blk_drewN ?_ _ | refine blk_drew ?_ | refine blk_alloc ?_ _)); refine blk_put (cs := #[.bool true, .int .u64 t166, .int .u64 t167, .int .u64 t168, .int .u64 x163004_1]) ?_ 4 _ rfl; (with_reducible repeat (first | refine blk_drewN ?_ _ | refine blk_drew ?_ | refine blk_alloc ?_ _)); refine blk_put (cs := #[.bool true, .int .u64 t166, .int .u64 t167, .int .u64 x163003_1, .int .u64 x163004_1]) ?_ 3 _ rfl; (with_reducible repeat (first | refine blk_drewN ?_ _ | refine blk_drew ?_ | refine blk_alloc ?_ _)); refine blk_put (cs := #[.bool true, .int .u64 t166, .int .u64 x163002_1, .int .u64 x163003_1, .int .u64 x163004_1]) ?_ 2 _ rfl; (with_reducible repeat (first | refine blk_drewN ?_ _ | refine blk_drew ?_ | refine blk_alloc ?_ _)); refine blk_put (cs := #[.bool true, .int .u64 x163001_1, .int .u64 x163002_1, .int .u64 x163003_1, .int .u64 x163004_1]) ?_ 1 _ rfl; (with_reducible repeat (first | refine blk_drewN ?_ _ | refine blk_drew ?_ | refine blk_alloc ?_ _)); refine blk_put (cs := #[.bool x163000_1, .int .u64 x163001_1, .int .u64 x163002_1, .int .u64 x163003_1, .int .u64 x163004_1]) ?_ 0 _ rfl; (with_reducible repeat (first | refine blk_drewN ?_ _ | refine blk_drew ?_ | refine blk_alloc ?_ _)); exact BK162.out) hb); have n1_ := Aside0.mk (below_step (by repeat (first | (with_reducible first | exact HB.out | apply below_alloc | apply pw_below_drewN | apply below_drew1 | refine below_set ?_ GE162.out) | exact HB.out)) hb); clear BK162; clear HB; have BK162 := n0_; have HB := n1_; clear n0_ n1_; (try clear hb); (try clear hb2); (try clear hk); (try clear hi)))
                                go_roundg kj8
                                case measure => have := HK1.out; have := HJ8.out; omega
                                case rel => exact ⟨(ji16), (ji17), (wrap64 (x11_1 + 1)), (true), (t166), (t167), (t168), (t169), (by first | rfl | (simp; done) | (simp only [← hji16] <;> (first | rfl | simp)) | (simp [*]; done)), (by first | rfl | (simp; done) | (simp only [← hji17] <;> (first | rfl | simp)) | (simp [*]; done)), (by first | rfl | (simp; done) | (simp [*]; done)), H', ⟨by have := HK1.out; have := HJ8.out; omega⟩, ⟨by (with_reducible repeat (first | refine blk_drewN ?_ _ | refine blk_drew ?_ | refine blk_alloc ?_ _)); exact BK162.out⟩, ⟨by repeat (first | (with_reducible first | exact HB.out | apply below_alloc | apply pw_below_drewN | apply below_drew1 | refine below_set ?_ GE162.out) | exact HB.out)⟩⟩
                        · rw [if_neg c28] at H
                          have c28b0 : (t166 == (IntKind.u64.wrap (rd l0 x11_1))) = false := beq_eq_false_iff_ne.mpr c28
                          have c28b1 : (t166 != (IntKind.u64.wrap (rd l0 x11_1))) = true := bne_iff_ne.mpr c28
                          obtain rfl := Option.some.inj H
                          have hcz39_0 : w20.cell? ⟨gb162, 0, none⟩ = some (.bool x163000_1) := (blk_cell BK162.out 0).trans rfl
                          have hcz39_1 : w20.cell? ⟨gb162, 1, none⟩ = some (.int .u64 x163001_1) := (blk_cell BK162.out 1).trans rfl
                          have hcz39_2 : w20.cell? ⟨gb162, 2, none⟩ = some (.int .u64 x163002_1) := (blk_cell BK162.out 2).trans rfl
                          have hcz39_3 : w20.cell? ⟨gb162, 3, none⟩ = some (.int .u64 x163003_1) := (blk_cell BK162.out 3).trans rfl
                          have hcz39_4 : w20.cell? ⟨gb162, 4, none⟩ = some (.int .u64 x163004_1) := (blk_cell BK162.out 4).trans rfl
                          have hfz39_0 := blk_frozen BK162.out 0
                          have hfz39_1 := blk_frozen BK162.out 1
                          have hfz39_2 := blk_frozen BK162.out 2
                          have hfz39_3 := blk_frozen BK162.out 3
                          have hfz39_4 := blk_frozen BK162.out 4
                          go_wp2
                          go_ret
                          exact ⟨by first | rfl | (simp [errW_none, errW_some] <;> rfl) | (simp only [← hji16, ← hji17]; first | rfl | (simp [errW_none, errW_some] <;> rfl)) | (simp [*, errW_none, errW_some] <;> rfl), by repeat (first | (with_reducible first | exact HB.out | apply below_alloc | apply pw_below_drewN | apply below_drew1 | refine below_set ?_ GE162.out) | exact HB.out)⟩
                      · rw [if_neg c27] at H
                        have c27b0 : (t167 == (ji16)) = false := beq_eq_false_iff_ne.mpr c27
                        have c27b1 : (t167 != (ji16)) = true := bne_iff_ne.mpr c27
                        obtain rfl := Option.some.inj H
                        have hcz40_0 : w20.cell? ⟨gb162, 0, none⟩ = some (.bool x163000_1) := (blk_cell BK162.out 0).trans rfl
                        have hcz40_1 : w20.cell? ⟨gb162, 1, none⟩ = some (.int .u64 x163001_1) := (blk_cell BK162.out 1).trans rfl
                        have hcz40_2 : w20.cell? ⟨gb162, 2, none⟩ = some (.int .u64 x163002_1) := (blk_cell BK162.out 2).trans rfl
                        have hcz40_3 : w20.cell? ⟨gb162, 3, none⟩ = some (.int .u64 x163003_1) := (blk_cell BK162.out 3).trans rfl
                        have hcz40_4 : w20.cell? ⟨gb162, 4, none⟩ = some (.int .u64 x163004_1) := (blk_cell BK162.out 4).trans rfl
                        have hfz40_0 := blk_frozen BK162.out 0
                        have hfz40_1 := blk_frozen BK162.out 1
                        have hfz40_2 := blk_frozen BK162.out 2
                        have hfz40_3 := blk_frozen BK162.out 3
                        have hfz40_4 := blk_frozen BK162.out 4
                        go_wp2
                        go_ret
                        exact ⟨by first | rfl | (simp [errW_none, errW_some] <;> rfl) | (simp only [← hji16, ← hji17]; first | rfl | (simp [errW_none, errW_some] <;> rfl)) | (simp [*, errW_none, errW_some] <;> rfl), by repeat (first | (with_reducible first | exact HB.out | apply below_alloc | apply pw_below_drewN | apply below_drew1 | refine below_set ?_ GE162.out) | exact HB.out)⟩
                    · replace c26 := Bool.eq_false_iff.mpr c26
                      subst c26
                      have H1 : (some false) = some r := by rw [if_neg (show ¬ (false = true) by decide)] at H; exact H
                      clear H
                      have H := H1
                      clear H1
                      obtain rfl := Option.some.inj H
                      have hcz41_0 : w20.cell? ⟨gb162, 0, none⟩ = some (.bool x163000_1) := (blk_cell BK162.out 0).trans rfl
                      have hcz41_1 : w20.cell? ⟨gb162, 1, none⟩ = some (.int .u64 x163001_1) := (blk_cell BK162.out 1).trans rfl
                      have hcz41_2 : w20.cell? ⟨gb162, 2, none⟩ = some (.int .u64 x163002_1) := (blk_cell BK162.out 2).trans rfl
                      have hcz41_3 : w20.cell? ⟨gb162, 3, none⟩ = some (.int .u64 x163003_1) := (blk_cell BK162.out 3).trans rfl
                      have hcz41_4 : w20.cell? ⟨gb162, 4, none⟩ = some (.int .u64 x163004_1) := (blk_cell BK162.out 4).trans rfl
                      have hfz41_0 := blk_frozen BK162.out 0
                      have hfz41_1 := blk_frozen BK162.out 1
                      have hfz41_2 := blk_frozen BK162.out 2
                      have hfz41_3 := blk_frozen BK162.out 3
                      have hfz41_4 := blk_frozen BK162.out 4
                      go_wp2
                      go_ret
                      exact ⟨by first | rfl | (simp [errW_none, errW_some] <;> rfl) | (simp only [← hji16, ← hji17]; first | rfl | (simp [errW_none, errW_some] <;> rfl)) | (simp [*, errW_none, errW_some] <;> rfl), by repeat (first | (with_reducible first | exact HB.out | apply below_alloc | apply pw_below_drewN | apply below_drew1 | refine below_set ?_ GE162.out) | exact HB.out)⟩
                  · rw [if_neg c14] at H
                    exact absurd H (by simp)
                · rw [if_neg c13] at H
                  exact absurd H (by simp)
              · rw [if_neg c12] at H
                exact absurd H (by simp)
            · replace c11 := Bool.eq_false_iff.mpr c11
              subst c11
              have H1 : (some t161) = some r := by rw [if_neg (show ¬ (false = true) by decide)] at H; exact H
              clear H
              have H := H1
              clear H1
              obtain rfl := Option.some.inj H
              go_wp2
              go_ret
              exact ⟨by first | rfl | (simp [errW_none, errW_some] <;> rfl) | (simp [*, errW_none, errW_some] <;> rfl), by repeat (first | (with_reducible first | exact HB.out | apply below_alloc | apply pw_below_drewN | apply below_drew1 | refine below_set ?_ GE162.out) | exact HB.out)⟩

/-- THE ONE PURE STATEMENT of wigwaglaw08_RttLow: yours. -/
def wigwaglaw08_RttLow.Pure : Prop := ∀ (l0 : List Int) (l1 : List Int) (a2 : Int), l0.length ≤ maxLen → l0.length * 4 ≤ 140737488351232 → (∀ x ∈ l0, (Lit.int .u32 x).wf = true) → l1.length ≤ maxLen → l1.length * 4 ≤ 140737488351232 → (∀ x ∈ l1, (Lit.int .u32 x).wf = true) → (Lit.int .u32 a2).wf = true → ∃ k, wigwaglaw08_RttLow.f k l0 l1 a2 = some true
theorem wigwaglaw08_RttLow.walk (P : wigwaglaw08_RttLow.Pure) (a0 : Option Addr) (len0 cap0 : Nat) (z0 : List Int) (a1 : Option Addr) (len1 cap1 : Nat) (z1 : List Int) (a2 : Int) (w : World) (w0 : (a0 = none ∧ len0 = 0 ∧ cap0 = 0 ∧ z0 = []) ∨ ∃ x, a0 = some x ∧ len0 ≤ cap0 ∧ cap0 ≤ maxLen ∧ z0.length = cap0 ∧ (∀ i, i < z0.length → w.cell? (x.add i) = some (.int .u32 (z0.getD i 0))) ∧ ∀ n ∈ z0, (Lit.int .u32 n).wf = true) (y0 : len0 * 4 ≤ 140737488351232) (w1 : (a1 = none ∧ len1 = 0 ∧ cap1 = 0 ∧ z1 = []) ∨ ∃ x, a1 = some x ∧ len1 ≤ cap1 ∧ cap1 ≤ maxLen ∧ z1.length = cap1 ∧ (∀ i, i < z1.length → w.cell? (x.add i) = some (.int .u32 (z1.getD i 0))) ∧ ∀ n ∈ z1, (Lit.int .u32 n).wf = true) (y1 : len1 * 4 ≤ 140737488351232) (w2 : (Lit.int .u32 a2).wf = true) :
    Calls Try.prog 4 #[.slice a0 len0 cap0, .slice a1 len1 cap1, .int .u32 a2] w fun e w' => e = .returned (.bool true) ∧ Below w.heap.size w w' := by
  obtain ⟨l0, rfl, hr0, hm0, hw0, hc0⟩ := ReadsInt.ofRowC w0
  obtain ⟨l1, rfl, hr1, hm1, hw1, hc1⟩ := ReadsInt.ofRowC w1
  obtain ⟨k, h⟩ := P l0 l1 a2 hm0 y0 hw0 hm1 y1 hw1 w2
  refine (wigwaglaw08_RttLow.calls k _ _ l0 _ _ l1 a2 true w (Kd.C_of_reads (d := (0 : Int)) (h1 := fun _ => rfl) hr0) hc0 (Kd.C_of_reads (d := (0 : Int)) (h1 := fun _ => rfl) hr1) hc1 h).mono ?_
  rintro e w' ⟨rfl, hd⟩
  exact ⟨rfl, hd⟩

end Go.Proofs.Ytidpokbgdfjbnaa.P
