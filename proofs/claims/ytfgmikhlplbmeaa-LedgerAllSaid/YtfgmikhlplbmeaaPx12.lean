-- Printed for this claim by xprint.py of this session: contracts of this session's own stand in for what the print does not take
import Derived.Test.YtfgmikhlplbmeaaPx0
import Derived.Test.YtfgmikhlplbmeaaPx4
import Derived.Test.YtfgmikhlplbmeaaPx5
import Derived.Test.YtfgmikhlplbmeaaPx6
import Derived.Test.YtfgmikhlplbmeaaPx10
import Derived.Test.YtfgmikhlplbmeaaPx11
namespace Go.Proofs.Ytfgmikhlplbmeaa.P
open Go.RowKit Go.Proofs.YtfgmikhlplbmeaaW.PrintWords Go.Proofs.YtfgmikhlplbmeaaW.PrintLast Go.Proofs.YtfgmikhlplbmeaaW.PrintMore
attribute [local go_sem] max2_int min2_int max_two min_two max_three min_three max_four min_four   -- for this text's walks alone
set_option linter.unusedVariables false
set_option linter.unusedSimpArgs false

/-! ### wigwaglaw09_awake: function 10 -/
def wigwaglaw09_awake.f (k : Nat)  : Option (Bool) := (some (([(⟨1, 10, 100, false⟩ : S37), (⟨2, 20, 100, false⟩ : S37), (⟨5, 30, 100, false⟩ : S37)] : List (S37)) : List (S37))).bind fun y193 => ((ledger_Take.f k y193 (([(⟨1, 3⟩ : S43)] : List (S43)))).bind fun bt199 => ((ledger_Lost.f k y193 6 40 100).bind fun bt205 => ((ledger_Lost.f k y193 4 40 100).bind fun bt212 => (if (bt199.1.length : Int) = 2 then (if (bt199.2.length : Int) = 1 then (if (bt205.1.length : Int) = 2 then (if (bt205.2.1.length : Int) = 1 then (if bt205.2.2 = 0 then (if (bt212.1.length : Int) = 0 then (if (bt212.2.1.length : Int) = 3 then (if bt212.2.2 = 110 then ((ledger_Check.f k y193).bind fun t219 => (if t219 = true then ((ledger_Flight.f k y193).bind fun t220 => (if t220 = 300 then ((ledger_Long.f k y193 10).bind fun t221 => (if t221 = true then ((ledger_Long.f k y193 11).bind fun t222 => (some (!t222))) else (some false))) else (some false))) else (some false))) else (some false)) else (some false)) else (some false)) else (some false)) else (some false)) else (some false)) else (some false)) else (some false)))))
theorem wigwaglaw09_awake.mono : ∀ k, LeO (wigwaglaw09_awake.f k ) (wigwaglaw09_awake.f (k + 1) ) := by
  intro  k
  unfold wigwaglaw09_awake.f
  repeat' first
      | (with_reducible exact ledger_Check.mono _ _)
      | (with_reducible exact ledger_Flight.mono _ _)
      | (with_reducible exact ledger_Long.mono _ _ _)
      | (with_reducible exact ledger_Lost.mono _ _ _ _ _)
      | (with_reducible exact ledger_Take.mono _ _ _)
      | (with_reducible exact LeO.refl _)
      | (with_reducible exact LeO.none _)
      | (with_reducible refine LeO.ite ?_ ?_)
      | (with_reducible refine LeO.bind ?_ (fun _ => ?_))
      | exact ledger_Check.mono _ _
      | exact ledger_Flight.mono _ _
      | exact ledger_Long.mono _ _ _
      | exact ledger_Lost.mono _ _ _ _ _
      | exact ledger_Take.mono _ _ _
      | exact LeO.none _
      | refine LeO.ite ?_ ?_
      | refine LeO.bind ?_ (fun _ => ?_)
set_option maxHeartbeats 8000000 in
set_option maxRecDepth 100000 in
theorem wigwaglaw09_awake.calls (k : Nat)  (r : Bool) (w : World) (h : wigwaglaw09_awake.f k  = some r) :
    Calls Try.prog 10 #[] w fun e w' => e = .returned (.bool r) ∧ Below w.heap.size w w' := by
  have hu37 := Try.underlying37
  have hu43 := Try.underlying43
  have HB := Aside0.mk (Below.refl w.heap.size w)
  have H : ((some (([(⟨1, 10, 100, false⟩ : S37), (⟨2, 20, 100, false⟩ : S37), (⟨5, 30, 100, false⟩ : S37)] : List (S37)) : List (S37))).bind fun y193 => ((ledger_Take.f k y193 (([(⟨1, 3⟩ : S43)] : List (S43)))).bind fun bt199 => ((ledger_Lost.f k y193 6 40 100).bind fun bt205 => ((ledger_Lost.f k y193 4 40 100).bind fun bt212 => (if (bt199.1.length : Int) = 2 then (if (bt199.2.length : Int) = 1 then (if (bt205.1.length : Int) = 2 then (if (bt205.2.1.length : Int) = 1 then (if bt205.2.2 = 0 then (if (bt212.1.length : Int) = 0 then (if (bt212.2.1.length : Int) = 3 then (if bt212.2.2 = 110 then ((ledger_Check.f k y193).bind fun t219 => (if t219 = true then ((ledger_Flight.f k y193).bind fun t220 => (if t220 = 300 then ((ledger_Long.f k y193 10).bind fun t221 => (if t221 = true then ((ledger_Long.f k y193 11).bind fun t222 => (some (!t222))) else (some false))) else (some false))) else (some false))) else (some false)) else (some false)) else (some false)) else (some false)) else (some false)) else (some false)) else (some false)) else (some false)))))) = some r := h
  clear h
  obtain ⟨y193, hy193⟩ : ∃ y_ : List (S37), y_ = (([(⟨1, 10, 100, false⟩ : S37), (⟨2, 20, 100, false⟩ : S37), (⟨5, 30, 100, false⟩ : S37)] : List (S37))) := ⟨_, rfl⟩
  replace H : ((ledger_Take.f k y193 (([(⟨1, 3⟩ : S43)] : List (S43)))).bind fun bt199 => ((ledger_Lost.f k y193 6 40 100).bind fun bt205 => ((ledger_Lost.f k y193 4 40 100).bind fun bt212 => (if (bt199.1.length : Int) = 2 then (if (bt199.2.length : Int) = 1 then (if (bt205.1.length : Int) = 2 then (if (bt205.2.1.length : Int) = 1 then (if bt205.2.2 = 0 then (if (bt212.1.length : Int) = 0 then (if (bt212.2.1.length : Int) = 3 then (if bt212.2.2 = 110 then ((ledger_Check.f k y193).bind fun t219 => (if t219 = true then ((ledger_Flight.f k y193).bind fun t220 => (if t220 = 300 then ((ledger_Long.f k y193 10).bind fun t221 => (if t221 = true then ((ledger_Long.f k y193 11).bind fun t222 => (some (!t222))) else (some false))) else (some false))) else (some false))) else (some false)) else (some false)) else (some false)) else (some false)) else (some false)) else (some false)) else (some false)) else (some false))))) = some r := by first | (rw [hy193]; with_reducible exact H) | (have H2_ := (Option.bind_some _ _).symm.trans H; rw [hy193]; with_reducible exact H2_) | (have H2_ := (Option.bind_some _ _).symm.trans H; with_reducible exact H2_) | with_reducible exact H | (rw [hy193]; exact H) | exact H
  have Ny193 := Aside0.mk hy193
  clear hy193
  obtain ⟨y196, hy196⟩ : ∃ y_ : List (S43), y_ = (([(⟨1, 3⟩ : S43)] : List (S43))) := ⟨_, rfl⟩
  replace H : ((ledger_Take.f k y193 y196).bind fun bt199 => ((ledger_Lost.f k y193 6 40 100).bind fun bt205 => ((ledger_Lost.f k y193 4 40 100).bind fun bt212 => (if (bt199.1.length : Int) = 2 then (if (bt199.2.length : Int) = 1 then (if (bt205.1.length : Int) = 2 then (if (bt205.2.1.length : Int) = 1 then (if bt205.2.2 = 0 then (if (bt212.1.length : Int) = 0 then (if (bt212.2.1.length : Int) = 3 then (if bt212.2.2 = 110 then ((ledger_Check.f k y193).bind fun t219 => (if t219 = true then ((ledger_Flight.f k y193).bind fun t220 => (if t220 = 300 then ((ledger_Long.f k y193 10).bind fun t221 => (if t221 = true then ((ledger_Long.f k y193 11).bind fun t222 => (some (!t222))) else (some false))) else (some false))) else (some false))) else (some false)) else (some false)) else (some false)) else (some false)) else (some false)) else (some false)) else (some false)) else (some false))))) = some r := by first | (rw [hy196]; with_reducible exact H) | (have H2_ := (Option.bind_some _ _).symm.trans H; rw [hy196]; with_reducible exact H2_) | (have H2_ := (Option.bind_some _ _).symm.trans H; with_reducible exact H2_) | with_reducible exact H | (rw [hy196]; exact H) | exact H
  have Ny196 := Aside0.mk hy196
  clear hy196
  replace H := Option.bind_eq_some_iff.mp H
  obtain ⟨⟨t199, t200⟩, A10, H⟩ := H
  replace H : ((ledger_Lost.f k y193 6 40 100).bind fun bt205 => ((ledger_Lost.f k y193 4 40 100).bind fun bt212 => (if (t199.length : Int) = 2 then (if (t200.length : Int) = 1 then (if (bt205.1.length : Int) = 2 then (if (bt205.2.1.length : Int) = 1 then (if bt205.2.2 = 0 then (if (bt212.1.length : Int) = 0 then (if (bt212.2.1.length : Int) = 3 then (if bt212.2.2 = 110 then ((ledger_Check.f k y193).bind fun t219 => (if t219 = true then ((ledger_Flight.f k y193).bind fun t220 => (if t220 = 300 then ((ledger_Long.f k y193 10).bind fun t221 => (if t221 = true then ((ledger_Long.f k y193 11).bind fun t222 => (some (!t222))) else (some false))) else (some false))) else (some false))) else (some false)) else (some false)) else (some false)) else (some false)) else (some false)) else (some false)) else (some false)) else (some false)))) = some r := H
  have A1 := Aside0.mk A10
  clear A10
  replace H := Option.bind_eq_some_iff.mp H
  obtain ⟨⟨t205, t206, t207⟩, A20, H⟩ := H
  replace H : ((ledger_Lost.f k y193 4 40 100).bind fun bt212 => (if (t199.length : Int) = 2 then (if (t200.length : Int) = 1 then (if (t205.length : Int) = 2 then (if (t206.length : Int) = 1 then (if t207 = 0 then (if (bt212.1.length : Int) = 0 then (if (bt212.2.1.length : Int) = 3 then (if bt212.2.2 = 110 then ((ledger_Check.f k y193).bind fun t219 => (if t219 = true then ((ledger_Flight.f k y193).bind fun t220 => (if t220 = 300 then ((ledger_Long.f k y193 10).bind fun t221 => (if t221 = true then ((ledger_Long.f k y193 11).bind fun t222 => (some (!t222))) else (some false))) else (some false))) else (some false))) else (some false)) else (some false)) else (some false)) else (some false)) else (some false)) else (some false)) else (some false)) else (some false))) = some r := H
  have A2 := Aside0.mk A20
  clear A20
  replace H := Option.bind_eq_some_iff.mp H
  obtain ⟨⟨t212, t213, t214⟩, A30, H⟩ := H
  replace H : (if (t199.length : Int) = 2 then (if (t200.length : Int) = 1 then (if (t205.length : Int) = 2 then (if (t206.length : Int) = 1 then (if t207 = 0 then (if (t212.length : Int) = 0 then (if (t213.length : Int) = 3 then (if t214 = 110 then ((ledger_Check.f k y193).bind fun t219 => (if t219 = true then ((ledger_Flight.f k y193).bind fun t220 => (if t220 = 300 then ((ledger_Long.f k y193 10).bind fun t221 => (if t221 = true then ((ledger_Long.f k y193 11).bind fun t222 => (some (!t222))) else (some false))) else (some false))) else (some false))) else (some false)) else (some false)) else (some false)) else (some false)) else (some false)) else (some false)) else (some false)) else (some false)) = some r := H
  have A3 := Aside0.mk A30
  clear A30
  have HS4 := Aside0.mk H
  clear H
  go_enter Try.func10, Try.ntmps10
  go_upto_region 5 with (first | ((with_reducible refine gate_dst (N := 13) rfl ?_); (try (refine gate_guard (by rfl) ?_; dsimp only)); refine Kd.R_lit k37 _ 37 ?hg (N := 13) ?hd (xs := ([(⟨1, 10, 100, false⟩ : S37), (⟨2, 20, 100, false⟩ : S37), (⟨5, 30, 100, false⟩ : S37)] : List (S37))) (inner := [.int .u64 1, .int .u64 10, .int .u64 100, .bool false, .int .u64 2, .int .u64 20, .int .u64 100, .bool false, .int .u64 5, .int .u64 30, .int .u64 100, .bool false]) (ok := fun _ => True) (okp := fun _ => True) ?hr ?hp (fun _ hk => hk) trivial (Below.refl _ _) (Nat.le_refl _) (by simp) ?_; (case hd => rfl); (case hg => rfl); (case hr => first | (go_simp; done) | (go_simp; rfl)); (case hp => exact (Reps.c4 (show Kd.M k37 _ _ _ (⟨1, 10, 100, false⟩ : S37) [.int .u64 1, .int .u64 10, .int .u64 100, .bool false] from (k37_mkM _ _ _ (⟨1, 10, 100, false⟩ : S37) )) (Reps.c4 (show Kd.M k37 _ _ _ (⟨2, 20, 100, false⟩ : S37) [.int .u64 2, .int .u64 20, .int .u64 100, .bool false] from (k37_mkM _ _ _ (⟨2, 20, 100, false⟩ : S37) )) (Reps.c4 (show Kd.M k37 _ _ _ (⟨5, 30, 100, false⟩ : S37) [.int .u64 5, .int .u64 30, .int .u64 100, .bool false] from (k37_mkM _ _ _ (⟨5, 30, 100, false⟩ : S37) )) (Reps.none _ _))))); intro v194 w5 ho6 hb hg_ hnew_; clear hg_ hnew_; (first | rw [← Ny193.out] at ho6 | (simp only [Int.reduceToNat] at ho6; rw [← Ny193.out] at ho6)); have n0_ := Aside0.mk (Kd.R_lower ho6 (below_size (by repeat (first | (with_reducible first | exact HB.out | apply below_alloc | apply pw_below_drewN | apply below_drew1) | exact HB.out)))); have n1_ := Aside0.mk (below_step (by repeat (first | (with_reducible first | exact HB.out | apply below_alloc | apply pw_below_drewN | apply below_drew1) | exact HB.out)) hb); clear HB; have HO195 := n0_; have HB := n1_; clear n0_ n1_; clear hb ho6) | ((with_reducible refine gate_dst (N := 17) rfl ?_); (try (refine gate_guard (by rfl) ?_; dsimp only)); refine Kd.R_lit k43 _ 43 ?hg (N := 17) ?hd (xs := ([(⟨1, 3⟩ : S43)] : List (S43))) (inner := [.int .u64 1, .int .u64 3]) (ok := fun _ => True) (okp := fun _ => True) ?hr ?hp (fun _ hk => hk) trivial (Below.refl _ _) (Nat.le_refl _) (by simp) ?_; (case hd => rfl); (case hg => rfl); (case hr => first | (go_simp; done) | (go_simp; rfl)); (case hp => exact (Reps.c2 (show Kd.M k43 _ _ _ (⟨1, 3⟩ : S43) [.int .u64 1, .int .u64 3] from (k43_mkM _ _ _ (⟨1, 3⟩ : S43) )) (Reps.none _ _))); intro v197 w7 ho8 hb hg_ hnew_; clear hg_ hnew_; (first | rw [← Ny196.out] at ho8 | (simp only [Int.reduceToNat] at ho8; rw [← Ny196.out] at ho8)); have n0_ := Aside0.mk (Kd.R_below (by (with_reducible repeat (first | apply Kd.R_alloc | apply Kd.R_drewN | apply Kd.R_drew)); exact HO195.out) hb); have n1_ := Aside0.mk (Kd.R_lower ho8 (below_size (by repeat (first | (with_reducible first | exact HB.out | apply below_alloc | apply pw_below_drewN | apply below_drew1) | exact HB.out)))); have n2_ := Aside0.mk (below_step (by repeat (first | (with_reducible first | exact HB.out | apply below_alloc | apply pw_below_drewN | apply below_drew1) | exact HB.out)) hb); clear HO195; clear HB; have HO195 := n0_; have HO198 := n1_; have HB := n2_; clear n0_ n1_ n2_; clear hb ho8; obtain ⟨Ao9, co9, eo9⟩ := Kd.R_slice HO195.out; subst eo9; obtain ⟨Ao10, co10, eo10⟩ := Kd.R_slice HO198.out; subst eo10) | ((with_reducible refine gate_callee (f := 12) rfl ?_); refine goesL_ (some 18) rfl rfl Try.func12 (by kernel_rfl) rfl #[.slice Ao9 y193.length co9, .slice Ao10 y196.length co10] rfl (by (try simp only [List.map_toArray, List.map_cons, List.map_nil]); first | done | rfl | (simp only [List.length_drop, List.length_take]; rfl)) ?_; (with_reducible refine (ledger_Take.calls k _ _ y193 _ _ y196 t199 t200 _ ?side1 ?side2 ?side3 ?side4 A1.out).mono ?_); (case side1 => repeat (first | exact (Kd.R_reads' HO195.out).2.2 | (with_reducible refine Kd.C_alloc ?_ _) | (with_reducible refine Kd.C_drewN ?_ _) | (with_reducible refine Kd.C_drew ?_))); (case side2 => exact (Kd.R_reads' HO195.out).2.1); (case side3 => repeat (first | exact (Kd.R_reads' HO198.out).2.2 | (with_reducible refine Kd.C_alloc ?_ _) | (with_reducible refine Kd.C_drewN ?_ _) | (with_reducible refine Kd.C_drew ?_))); (case side4 => exact (Kd.R_reads' HO198.out).2.1); rintro e w11 ⟨v201, v203, rfl, ho0, ho1, hb⟩; refine ⟨_, rfl, ?_⟩; have n0_ := Aside0.mk (Kd.R_mono (Kd.R_told (Kd.R_told (Kd.R_old (by (with_reducible repeat (first | apply Kd.R_alloc | apply Kd.R_drewN | apply Kd.R_drew)); exact HO195.out) hb) (Kd.R_base ho0)) (Kd.R_base ho1)) (fun _ h_ => h_.1)); have n1_ := Aside0.mk (Kd.R_below (by (with_reducible repeat (first | apply Kd.R_alloc | apply Kd.R_drewN | apply Kd.R_drew)); exact HO198.out) hb); have n2_ := Aside0.mk (Kd.R_lower (Kd.R_new' ho0 (Kd.R_lt (by (with_reducible repeat (first | apply Kd.R_alloc | apply Kd.R_drewN | apply Kd.R_drew)); exact HO195.out))) (below_size (by repeat (first | (with_reducible first | exact HB.out | apply below_alloc | apply pw_below_drewN | apply below_drew1) | exact HB.out)))); have n3_ := Aside0.mk (Kd.R_lower (Kd.R_new' ho1 (Kd.R_lt (by (with_reducible repeat (first | apply Kd.R_alloc | apply Kd.R_drewN | apply Kd.R_drew)); exact HO195.out))) (below_size (by repeat (first | (with_reducible first | exact HB.out | apply below_alloc | apply pw_below_drewN | apply below_drew1) | exact HB.out)))); have n4_ := Aside0.mk (below_step (by repeat (first | (with_reducible first | exact HB.out | apply below_alloc | apply pw_below_drewN | apply below_drew1) | exact HB.out)) hb); clear HO195; clear HO198; clear HB; have HO195 := n0_; have HO198 := n1_; have HO202 := n2_; have HO204 := n3_; have HB := n4_; clear n0_ n1_ n2_ n3_ n4_; (try clear hb); (try clear hb2); (try clear hk); (try clear hi); (try clear ho0); (try clear ho1)) | ((with_reducible refine gate_callee (f := 19) rfl ?_); refine goesL_ (some 23) rfl rfl Try.func19 (by kernel_rfl) rfl #[.slice Ao9 y193.length co9, .int .u64 6, .int .u64 40, .int .u64 100] rfl (by (try simp only [List.map_toArray, List.map_cons, List.map_nil]); first | done | rfl | (simp only [List.length_drop, List.length_take]; rfl)) ?_; (with_reducible refine (ledger_Lost.calls k _ _ y193 6 40 100 t205 t206 t207 _ ?side1 ?side2 A2.out).mono ?_); (case side1 => repeat (first | exact (Kd.R_reads' HO195.out).2.2 | (with_reducible refine Kd.C_alloc ?_ _) | (with_reducible refine Kd.C_drewN ?_ _) | (with_reducible refine Kd.C_drew ?_))); (case side2 => exact (Kd.R_reads' HO195.out).2.1); rintro e w12 ⟨v208, v210, rfl, ho0, ho1, hb⟩; refine ⟨_, rfl, ?_⟩; have n0_ := Aside0.mk (Kd.R_mono (Kd.R_told (Kd.R_told (Kd.R_old (by (with_reducible repeat (first | apply Kd.R_alloc | apply Kd.R_drewN | apply Kd.R_drew)); exact HO195.out) hb) (Kd.R_base ho0)) (Kd.R_base ho1)) (fun _ h_ => h_.1)); have n1_ := Aside0.mk (Kd.R_below (by (with_reducible repeat (first | apply Kd.R_alloc | apply Kd.R_drewN | apply Kd.R_drew)); exact HO198.out) hb); have n2_ := Aside0.mk (Kd.R_mono (Kd.R_told (Kd.R_told (Kd.R_old (by (with_reducible repeat (first | apply Kd.R_alloc | apply Kd.R_drewN | apply Kd.R_drew)); exact HO202.out) hb) (Kd.R_base ho0)) (Kd.R_base ho1)) (fun _ h_ => h_.1)); have n3_ := Aside0.mk (Kd.R_mono (Kd.R_told (Kd.R_told (Kd.R_old (by (with_reducible repeat (first | apply Kd.R_alloc | apply Kd.R_drewN | apply Kd.R_drew)); exact HO204.out) hb) (Kd.R_base ho0)) (Kd.R_base ho1)) (fun _ h_ => h_.1)); have n4_ := Aside0.mk (Kd.R_lower (Kd.R_new' (Kd.R_new' (Kd.R_new' ho0 (Kd.R_lt (by (with_reducible repeat (first | apply Kd.R_alloc | apply Kd.R_drewN | apply Kd.R_drew)); exact HO195.out))) (Kd.R_lt (by (with_reducible repeat (first | apply Kd.R_alloc | apply Kd.R_drewN | apply Kd.R_drew)); exact HO202.out))) (Kd.R_lt (by (with_reducible repeat (first | apply Kd.R_alloc | apply Kd.R_drewN | apply Kd.R_drew)); exact HO204.out))) (below_size (by repeat (first | (with_reducible first | exact HB.out | apply below_alloc | apply pw_below_drewN | apply below_drew1) | exact HB.out)))); have n5_ := Aside0.mk (Kd.R_lower (Kd.R_new' (Kd.R_new' (Kd.R_new' ho1 (Kd.R_lt (by (with_reducible repeat (first | apply Kd.R_alloc | apply Kd.R_drewN | apply Kd.R_drew)); exact HO195.out))) (Kd.R_lt (by (with_reducible repeat (first | apply Kd.R_alloc | apply Kd.R_drewN | apply Kd.R_drew)); exact HO202.out))) (Kd.R_lt (by (with_reducible repeat (first | apply Kd.R_alloc | apply Kd.R_drewN | apply Kd.R_drew)); exact HO204.out))) (below_size (by repeat (first | (with_reducible first | exact HB.out | apply below_alloc | apply pw_below_drewN | apply below_drew1) | exact HB.out)))); have n6_ := Aside0.mk (below_step (by repeat (first | (with_reducible first | exact HB.out | apply below_alloc | apply pw_below_drewN | apply below_drew1) | exact HB.out)) hb); clear HO195; clear HO198; clear HO202; clear HO204; clear HB; have HO195 := n0_; have HO198 := n1_; have HO202 := n2_; have HO204 := n3_; have HO209 := n4_; have HO211 := n5_; have HB := n6_; clear n0_ n1_ n2_ n3_ n4_ n5_ n6_; (try clear hb); (try clear hb2); (try clear hk); (try clear hi); (try clear ho0); (try clear ho1)) | ((with_reducible refine gate_callee (f := 19) rfl ?_); refine goesL_ (some 29) rfl rfl Try.func19 (by kernel_rfl) rfl #[.slice Ao9 y193.length co9, .int .u64 4, .int .u64 40, .int .u64 100] rfl (by (try simp only [List.map_toArray, List.map_cons, List.map_nil]); first | done | rfl | (simp only [List.length_drop, List.length_take]; rfl)) ?_; (with_reducible refine (ledger_Lost.calls k _ _ y193 4 40 100 t212 t213 t214 _ ?side1 ?side2 A3.out).mono ?_); (case side1 => repeat (first | exact (Kd.R_reads' HO195.out).2.2 | (with_reducible refine Kd.C_alloc ?_ _) | (with_reducible refine Kd.C_drewN ?_ _) | (with_reducible refine Kd.C_drew ?_))); (case side2 => exact (Kd.R_reads' HO195.out).2.1); rintro e w13 ⟨v215, v217, rfl, ho0, ho1, hb⟩; refine ⟨_, rfl, ?_⟩; have n0_ := Aside0.mk (Kd.R_mono (Kd.R_told (Kd.R_told (Kd.R_old (by (with_reducible repeat (first | apply Kd.R_alloc | apply Kd.R_drewN | apply Kd.R_drew)); exact HO195.out) hb) (Kd.R_base ho0)) (Kd.R_base ho1)) (fun _ h_ => h_.1)); have n1_ := Aside0.mk (Kd.R_below (by (with_reducible repeat (first | apply Kd.R_alloc | apply Kd.R_drewN | apply Kd.R_drew)); exact HO198.out) hb); have n2_ := Aside0.mk (Kd.R_mono (Kd.R_told (Kd.R_told (Kd.R_old (by (with_reducible repeat (first | apply Kd.R_alloc | apply Kd.R_drewN | apply Kd.R_drew)); exact HO202.out) hb) (Kd.R_base ho0)) (Kd.R_base ho1)) (fun _ h_ => h_.1)); have n3_ := Aside0.mk (Kd.R_mono (Kd.R_told (Kd.R_told (Kd.R_old (by (with_reducible repeat (first | apply Kd.R_alloc | apply Kd.R_drewN | apply Kd.R_drew)); exact HO204.out) hb) (Kd.R_base ho0)) (Kd.R_base ho1)) (fun _ h_ => h_.1)); have n4_ := Aside0.mk (Kd.R_mono (Kd.R_told (Kd.R_told (Kd.R_old (by (with_reducible repeat (first | apply Kd.R_alloc | apply Kd.R_drewN | apply Kd.R_drew)); exact HO209.out) hb) (Kd.R_base ho0)) (Kd.R_base ho1)) (fun _ h_ => h_.1)); have n5_ := Aside0.mk (Kd.R_mono (Kd.R_told (Kd.R_told (Kd.R_old (by (with_reducible repeat (first | apply Kd.R_alloc | apply Kd.R_drewN | apply Kd.R_drew)); exact HO211.out) hb) (Kd.R_base ho0)) (Kd.R_base ho1)) (fun _ h_ => h_.1)); have n6_ := Aside0.mk (Kd.R_lower (Kd.R_new' (Kd.R_new' (Kd.R_new' (Kd.R_new' (Kd.R_new' ho0 (Kd.R_lt (by (with_reducible repeat (first | apply Kd.R_alloc | apply Kd.R_drewN | apply Kd.R_drew)); exact HO195.out))) (Kd.R_lt (by (with_reducible repeat (first | apply Kd.R_alloc | apply Kd.R_drewN | apply Kd.R_drew)); exact HO202.out))) (Kd.R_lt (by (with_reducible repeat (first | apply Kd.R_alloc | apply Kd.R_drewN | apply Kd.R_drew)); exact HO204.out))) (Kd.R_lt (by (with_reducible repeat (first | apply Kd.R_alloc | apply Kd.R_drewN | apply Kd.R_drew)); exact HO209.out))) (Kd.R_lt (by (with_reducible repeat (first | apply Kd.R_alloc | apply Kd.R_drewN | apply Kd.R_drew)); exact HO211.out))) (below_size (by repeat (first | (with_reducible first | exact HB.out | apply below_alloc | apply pw_below_drewN | apply below_drew1) | exact HB.out)))); have n7_ := Aside0.mk (Kd.R_lower (Kd.R_new' (Kd.R_new' (Kd.R_new' (Kd.R_new' (Kd.R_new' ho1 (Kd.R_lt (by (with_reducible repeat (first | apply Kd.R_alloc | apply Kd.R_drewN | apply Kd.R_drew)); exact HO195.out))) (Kd.R_lt (by (with_reducible repeat (first | apply Kd.R_alloc | apply Kd.R_drewN | apply Kd.R_drew)); exact HO202.out))) (Kd.R_lt (by (with_reducible repeat (first | apply Kd.R_alloc | apply Kd.R_drewN | apply Kd.R_drew)); exact HO204.out))) (Kd.R_lt (by (with_reducible repeat (first | apply Kd.R_alloc | apply Kd.R_drewN | apply Kd.R_drew)); exact HO209.out))) (Kd.R_lt (by (with_reducible repeat (first | apply Kd.R_alloc | apply Kd.R_drewN | apply Kd.R_drew)); exact HO211.out))) (below_size (by repeat (first | (with_reducible first | exact HB.out | apply below_alloc | apply pw_below_drewN | apply below_drew1) | exact HB.out)))); have n8_ := Aside0.mk (below_step (by repeat (first | (with_reducible first | exact HB.out | apply below_alloc | apply pw_below_drewN | apply below_drew1) | exact HB.out)) hb); clear HO195; clear HO198; clear HO202; clear HO204; clear HO209; clear HO211; clear HB; have HO195 := n0_; have HO198 := n1_; have HO202 := n2_; have HO204 := n3_; have HO209 := n4_; have HO211 := n5_; have HO216 := n6_; have HO218 := n7_; have HB := n8_; clear n0_ n1_ n2_ n3_ n4_ n5_ n6_ n7_ n8_; (try clear hb); (try clear hb2); (try clear hk); (try clear hi); (try clear ho0); (try clear ho1)))
  (try simp only [Act.put, List.setIfInBounds_toArray, List.set_cons_zero, List.set_cons_succ])
  have H := HS4.out
  clear HS4
  by_cases c14 : (t199.length : Int) = 2
  · rw [if_pos c14] at H
    have c14b0 : ((t199.length : Int) == 2) = true := beq_iff_eq.mpr c14
    have c14b1 : ((t199.length : Int) != 2) = false := bne_eq_false_iff_eq.mpr c14
    clear c14
    by_cases c15 : (t200.length : Int) = 1
    · rw [if_pos c15] at H
      have c15b0 : ((t200.length : Int) == 1) = true := beq_iff_eq.mpr c15
      have c15b1 : ((t200.length : Int) != 1) = false := bne_eq_false_iff_eq.mpr c15
      clear c15
      by_cases c16 : (t205.length : Int) = 2
      · rw [if_pos c16] at H
        have c16b0 : ((t205.length : Int) == 2) = true := beq_iff_eq.mpr c16
        have c16b1 : ((t205.length : Int) != 2) = false := bne_eq_false_iff_eq.mpr c16
        clear c16
        by_cases c17 : (t206.length : Int) = 1
        · rw [if_pos c17] at H
          have c17b0 : ((t206.length : Int) == 1) = true := beq_iff_eq.mpr c17
          have c17b1 : ((t206.length : Int) != 1) = false := bne_eq_false_iff_eq.mpr c17
          clear c17
          by_cases c18 : t207 = 0
          · rw [if_pos c18] at H
            have c18b0 : (t207 == 0) = true := beq_iff_eq.mpr c18
            have c18b1 : (t207 != 0) = false := bne_eq_false_iff_eq.mpr c18
            clear c18
            by_cases c19 : (t212.length : Int) = 0
            · rw [if_pos c19] at H
              have c19b0 : ((t212.length : Int) == 0) = true := beq_iff_eq.mpr c19
              have c19b1 : ((t212.length : Int) != 0) = false := bne_eq_false_iff_eq.mpr c19
              clear c19
              by_cases c20 : (t213.length : Int) = 3
              · rw [if_pos c20] at H
                have c20b0 : ((t213.length : Int) == 3) = true := beq_iff_eq.mpr c20
                have c20b1 : ((t213.length : Int) != 3) = false := bne_eq_false_iff_eq.mpr c20
                clear c20
                by_cases c21 : t214 = 110
                · rw [if_pos c21] at H
                  have c21b0 : (t214 == 110) = true := beq_iff_eq.mpr c21
                  have c21b1 : (t214 != 110) = false := bne_eq_false_iff_eq.mpr c21
                  clear c21
                  replace H := Option.bind_eq_some_iff.mp H
                  obtain ⟨t219, A220, H⟩ := H
                  replace H : (if t219 = true then ((ledger_Flight.f k y193).bind fun t220 => (if t220 = 300 then ((ledger_Long.f k y193 10).bind fun t221 => (if t221 = true then ((ledger_Long.f k y193 11).bind fun t222 => (some (!t222))) else (some false))) else (some false))) else (some false)) = some r := H
                  have A22 := Aside0.mk A220
                  clear A220
                  by_cases c23 : t219 = true
                  · subst c23
                    have H1 : ((ledger_Flight.f k y193).bind fun t220 => (if t220 = 300 then ((ledger_Long.f k y193 10).bind fun t221 => (if t221 = true then ((ledger_Long.f k y193 11).bind fun t222 => (some (!t222))) else (some false))) else (some false))) = some r := by rw [if_pos rfl] at H; exact H
                    clear H
                    have H := H1
                    clear H1
                    replace H := Option.bind_eq_some_iff.mp H
                    obtain ⟨t220, A240, H⟩ := H
                    replace H : (if t220 = 300 then ((ledger_Long.f k y193 10).bind fun t221 => (if t221 = true then ((ledger_Long.f k y193 11).bind fun t222 => (some (!t222))) else (some false))) else (some false)) = some r := H
                    have A24 := Aside0.mk A240
                    clear A240
                    by_cases c25 : t220 = 300
                    · rw [if_pos c25] at H
                      have c25b0 : (t220 == 300) = true := beq_iff_eq.mpr c25
                      have c25b1 : (t220 != 300) = false := bne_eq_false_iff_eq.mpr c25
                      clear c25
                      replace H := Option.bind_eq_some_iff.mp H
                      obtain ⟨t221, A260, H⟩ := H
                      replace H : (if t221 = true then ((ledger_Long.f k y193 11).bind fun t222 => (some (!t222))) else (some false)) = some r := H
                      have A26 := Aside0.mk A260
                      clear A260
                      by_cases c27 : t221 = true
                      · subst c27
                        have H1 : ((ledger_Long.f k y193 11).bind fun t222 => (some (!t222))) = some r := by rw [if_pos rfl] at H; exact H
                        clear H
                        have H := H1
                        clear H1
                        replace H := Option.bind_eq_some_iff.mp H
                        obtain ⟨t222, A280, H⟩ := H
                        replace H : (some (!t222)) = some r := H
                        have A28 := Aside0.mk A280
                        clear A280
                        obtain rfl := Option.some.inj H
                        obtain ⟨Ao29, co29, eo29⟩ := Kd.R_slice HO202.out
                        subst eo29
                        obtain ⟨Ao30, co30, eo30⟩ := Kd.R_slice HO204.out
                        subst eo30
                        obtain ⟨Ao31, co31, eo31⟩ := Kd.R_slice HO209.out
                        subst eo31
                        obtain ⟨Ao32, co32, eo32⟩ := Kd.R_slice HO211.out
                        subst eo32
                        obtain ⟨Ao33, co33, eo33⟩ := Kd.R_slice HO216.out
                        subst eo33
                        obtain ⟨Ao34, co34, eo34⟩ := Kd.R_slice HO218.out
                        subst eo34
                        go_wp2_with (first | (go_at_call 15; (with_reducible refine (ledger_Check.calls k _ _ y193 true _ ?side1 ?side2 A22.out).mono ?_); (case side1 => repeat (first | exact (Kd.R_reads' HO195.out).2.2 | (with_reducible refine Kd.C_alloc ?_ _) | (with_reducible refine Kd.C_drewN ?_ _) | (with_reducible refine Kd.C_drew ?_))); (case side2 => exact (Kd.R_reads' HO195.out).2.1); rintro e w' ⟨rfl, ⟨nd, rfl⟩⟩) | (go_at_call 17; (with_reducible refine (ledger_Flight.calls k _ _ y193 t220 _ ?side1 ?side2 A24.out).mono ?_); (case side1 => repeat (first | exact (Kd.R_reads' HO195.out).2.2 | (with_reducible refine Kd.C_alloc ?_ _) | (with_reducible refine Kd.C_drewN ?_ _) | (with_reducible refine Kd.C_drew ?_))); (case side2 => exact (Kd.R_reads' HO195.out).2.1); rintro e w35 ⟨rfl, hb⟩; have n0_ := Aside0.mk (Kd.R_below (by (with_reducible repeat (first | apply Kd.R_alloc | apply Kd.R_drewN | apply Kd.R_drew)); exact HO195.out) hb); have n1_ := Aside0.mk (Kd.R_below (by (with_reducible repeat (first | apply Kd.R_alloc | apply Kd.R_drewN | apply Kd.R_drew)); exact HO198.out) hb); have n2_ := Aside0.mk (Kd.R_below (by (with_reducible repeat (first | apply Kd.R_alloc | apply Kd.R_drewN | apply Kd.R_drew)); exact HO202.out) hb); have n3_ := Aside0.mk (Kd.R_below (by (with_reducible repeat (first | apply Kd.R_alloc | apply Kd.R_drewN | apply Kd.R_drew)); exact HO204.out) hb); have n4_ := Aside0.mk (Kd.R_below (by (with_reducible repeat (first | apply Kd.R_alloc | apply Kd.R_drewN | apply Kd.R_drew)); exact HO209.out) hb); have n5_ := Aside0.mk (Kd.R_below (by (with_reducible repeat (first | apply Kd.R_alloc | apply Kd.R_drewN | apply Kd.R_drew)); exact HO211.out) hb); have n6_ := Aside0.mk (Kd.R_below (by (with_reducible repeat (first | apply Kd.R_alloc | apply Kd.R_drewN | apply Kd.R_drew)); exact HO216.out) hb); have n7_ := Aside0.mk (Kd.R_below (by (with_reducible repeat (first | apply Kd.R_alloc | apply Kd.R_drewN | apply Kd.R_drew)); exact HO218.out) hb); have n8_ := Aside0.mk (below_step (by repeat (first | (with_reducible first | exact HB.out | apply below_alloc | apply pw_below_drewN | apply below_drew1) | exact HB.out)) hb); clear HO195; clear HO198; clear HO202; clear HO204; clear HO209; clear HO211; clear HO216; clear HO218; clear HB; have HO195 := n0_; have HO198 := n1_; have HO202 := n2_; have HO204 := n3_; have HO209 := n4_; have HO211 := n5_; have HO216 := n6_; have HO218 := n7_; have HB := n8_; clear n0_ n1_ n2_ n3_ n4_ n5_ n6_ n7_ n8_; (try clear hb); (try clear hb2); (try clear hk); (try clear hi)) | (go_at_call 21; (with_reducible refine (ledger_Long.calls k _ _ y193 10 true _ ?side1 ?side2 A26.out).mono ?_); (case side1 => repeat (first | exact (Kd.R_reads' HO195.out).2.2 | (with_reducible refine Kd.C_alloc ?_ _) | (with_reducible refine Kd.C_drewN ?_ _) | (with_reducible refine Kd.C_drew ?_))); (case side2 => exact (Kd.R_reads' HO195.out).2.1); rintro e w36 ⟨rfl, hb⟩; have n0_ := Aside0.mk (Kd.R_below (by (with_reducible repeat (first | apply Kd.R_alloc | apply Kd.R_drewN | apply Kd.R_drew)); exact HO195.out) hb); have n1_ := Aside0.mk (Kd.R_below (by (with_reducible repeat (first | apply Kd.R_alloc | apply Kd.R_drewN | apply Kd.R_drew)); exact HO198.out) hb); have n2_ := Aside0.mk (Kd.R_below (by (with_reducible repeat (first | apply Kd.R_alloc | apply Kd.R_drewN | apply Kd.R_drew)); exact HO202.out) hb); have n3_ := Aside0.mk (Kd.R_below (by (with_reducible repeat (first | apply Kd.R_alloc | apply Kd.R_drewN | apply Kd.R_drew)); exact HO204.out) hb); have n4_ := Aside0.mk (Kd.R_below (by (with_reducible repeat (first | apply Kd.R_alloc | apply Kd.R_drewN | apply Kd.R_drew)); exact HO209.out) hb); have n5_ := Aside0.mk (Kd.R_below (by (with_reducible repeat (first | apply Kd.R_alloc | apply Kd.R_drewN | apply Kd.R_drew)); exact HO211.out) hb); have n6_ := Aside0.mk (Kd.R_below (by (with_reducible repeat (first | apply Kd.R_alloc | apply Kd.R_drewN | apply Kd.R_drew)); exact HO216.out) hb); have n7_ := Aside0.mk (Kd.R_below (by (with_reducible repeat (first | apply Kd.R_alloc | apply Kd.R_drewN | apply Kd.R_drew)); exact HO218.out) hb); have n8_ := Aside0.mk (below_step (by repeat (first | (with_reducible first | exact HB.out | apply below_alloc | apply pw_below_drewN | apply below_drew1) | exact HB.out)) hb); clear HO195; clear HO198; clear HO202; clear HO204; clear HO209; clear HO211; clear HO216; clear HO218; clear HB; have HO195 := n0_; have HO198 := n1_; have HO202 := n2_; have HO204 := n3_; have HO209 := n4_; have HO211 := n5_; have HO216 := n6_; have HO218 := n7_; have HB := n8_; clear n0_ n1_ n2_ n3_ n4_ n5_ n6_ n7_ n8_; (try clear hb); (try clear hb2); (try clear hk); (try clear hi)) | (go_at_call 21; (with_reducible refine (ledger_Long.calls k _ _ y193 11 t222 _ ?side1 ?side2 A28.out).mono ?_); (case side1 => repeat (first | exact (Kd.R_reads' HO195.out).2.2 | (with_reducible refine Kd.C_alloc ?_ _) | (with_reducible refine Kd.C_drewN ?_ _) | (with_reducible refine Kd.C_drew ?_))); (case side2 => exact (Kd.R_reads' HO195.out).2.1); rintro e w37 ⟨rfl, hb⟩; have n0_ := Aside0.mk (Kd.R_below (by (with_reducible repeat (first | apply Kd.R_alloc | apply Kd.R_drewN | apply Kd.R_drew)); exact HO195.out) hb); have n1_ := Aside0.mk (Kd.R_below (by (with_reducible repeat (first | apply Kd.R_alloc | apply Kd.R_drewN | apply Kd.R_drew)); exact HO198.out) hb); have n2_ := Aside0.mk (Kd.R_below (by (with_reducible repeat (first | apply Kd.R_alloc | apply Kd.R_drewN | apply Kd.R_drew)); exact HO202.out) hb); have n3_ := Aside0.mk (Kd.R_below (by (with_reducible repeat (first | apply Kd.R_alloc | apply Kd.R_drewN | apply Kd.R_drew)); exact HO204.out) hb); have n4_ := Aside0.mk (Kd.R_below (by (with_reducible repeat (first | apply Kd.R_alloc | apply Kd.R_drewN | apply Kd.R_drew)); exact HO209.out) hb); have n5_ := Aside0.mk (Kd.R_below (by (with_reducible repeat (first | apply Kd.R_alloc | apply Kd.R_drewN | apply Kd.R_drew)); exact HO211.out) hb); have n6_ := Aside0.mk (Kd.R_below (by (with_reducible repeat (first | apply Kd.R_alloc | apply Kd.R_drewN | apply Kd.R_drew)); exact HO216.out) hb); have n7_ := Aside0.mk (Kd.R_below (by (with_reducible repeat (first | apply Kd.R_alloc | apply Kd.R_drewN | apply Kd.R_drew)); exact HO218.out) hb); have n8_ := Aside0.mk (below_step (by repeat (first | (with_reducible first | exact HB.out | apply below_alloc | apply pw_below_drewN | apply below_drew1) | exact HB.out)) hb); clear HO195; clear HO198; clear HO202; clear HO204; clear HO209; clear HO211; clear HO216; clear HO218; clear HB; have HO195 := n0_; have HO198 := n1_; have HO202 := n2_; have HO204 := n3_; have HO209 := n4_; have HO211 := n5_; have HO216 := n6_; have HO218 := n7_; have HB := n8_; clear n0_ n1_ n2_ n3_ n4_ n5_ n6_ n7_ n8_; (try clear hb); (try clear hb2); (try clear hk); (try clear hi)))
                        go_ret
                        exact ⟨by first | rfl | (simp [errW_none, errW_some] <;> rfl) | (simp [*, errW_none, errW_some] <;> rfl), by repeat (first | (with_reducible first | exact HB.out | apply below_alloc | apply pw_below_drewN | apply below_drew1) | exact HB.out)⟩
                      · replace c27 := Bool.eq_false_iff.mpr c27
                        subst c27
                        have H1 : (some false) = some r := by rw [if_neg (show ¬ (false = true) by decide)] at H; exact H
                        clear H
                        have H := H1
                        clear H1
                        obtain rfl := Option.some.inj H
                        obtain ⟨Ao38, co38, eo38⟩ := Kd.R_slice HO202.out
                        subst eo38
                        obtain ⟨Ao39, co39, eo39⟩ := Kd.R_slice HO204.out
                        subst eo39
                        obtain ⟨Ao40, co40, eo40⟩ := Kd.R_slice HO209.out
                        subst eo40
                        obtain ⟨Ao41, co41, eo41⟩ := Kd.R_slice HO211.out
                        subst eo41
                        obtain ⟨Ao42, co42, eo42⟩ := Kd.R_slice HO216.out
                        subst eo42
                        obtain ⟨Ao43, co43, eo43⟩ := Kd.R_slice HO218.out
                        subst eo43
                        go_wp2_with (first | (go_at_call 15; (with_reducible refine (ledger_Check.calls k _ _ y193 true _ ?side1 ?side2 A22.out).mono ?_); (case side1 => repeat (first | exact (Kd.R_reads' HO195.out).2.2 | (with_reducible refine Kd.C_alloc ?_ _) | (with_reducible refine Kd.C_drewN ?_ _) | (with_reducible refine Kd.C_drew ?_))); (case side2 => exact (Kd.R_reads' HO195.out).2.1); rintro e w' ⟨rfl, ⟨nd, rfl⟩⟩) | (go_at_call 17; (with_reducible refine (ledger_Flight.calls k _ _ y193 t220 _ ?side1 ?side2 A24.out).mono ?_); (case side1 => repeat (first | exact (Kd.R_reads' HO195.out).2.2 | (with_reducible refine Kd.C_alloc ?_ _) | (with_reducible refine Kd.C_drewN ?_ _) | (with_reducible refine Kd.C_drew ?_))); (case side2 => exact (Kd.R_reads' HO195.out).2.1); rintro e w44 ⟨rfl, hb⟩; have n0_ := Aside0.mk (Kd.R_below (by (with_reducible repeat (first | apply Kd.R_alloc | apply Kd.R_drewN | apply Kd.R_drew)); exact HO195.out) hb); have n1_ := Aside0.mk (Kd.R_below (by (with_reducible repeat (first | apply Kd.R_alloc | apply Kd.R_drewN | apply Kd.R_drew)); exact HO198.out) hb); have n2_ := Aside0.mk (Kd.R_below (by (with_reducible repeat (first | apply Kd.R_alloc | apply Kd.R_drewN | apply Kd.R_drew)); exact HO202.out) hb); have n3_ := Aside0.mk (Kd.R_below (by (with_reducible repeat (first | apply Kd.R_alloc | apply Kd.R_drewN | apply Kd.R_drew)); exact HO204.out) hb); have n4_ := Aside0.mk (Kd.R_below (by (with_reducible repeat (first | apply Kd.R_alloc | apply Kd.R_drewN | apply Kd.R_drew)); exact HO209.out) hb); have n5_ := Aside0.mk (Kd.R_below (by (with_reducible repeat (first | apply Kd.R_alloc | apply Kd.R_drewN | apply Kd.R_drew)); exact HO211.out) hb); have n6_ := Aside0.mk (Kd.R_below (by (with_reducible repeat (first | apply Kd.R_alloc | apply Kd.R_drewN | apply Kd.R_drew)); exact HO216.out) hb); have n7_ := Aside0.mk (Kd.R_below (by (with_reducible repeat (first | apply Kd.R_alloc | apply Kd.R_drewN | apply Kd.R_drew)); exact HO218.out) hb); have n8_ := Aside0.mk (below_step (by repeat (first | (with_reducible first | exact HB.out | apply below_alloc | apply pw_below_drewN | apply below_drew1) | exact HB.out)) hb); clear HO195; clear HO198; clear HO202; clear HO204; clear HO209; clear HO211; clear HO216; clear HO218; clear HB; have HO195 := n0_; have HO198 := n1_; have HO202 := n2_; have HO204 := n3_; have HO209 := n4_; have HO211 := n5_; have HO216 := n6_; have HO218 := n7_; have HB := n8_; clear n0_ n1_ n2_ n3_ n4_ n5_ n6_ n7_ n8_; (try clear hb); (try clear hb2); (try clear hk); (try clear hi)) | (go_at_call 21; (with_reducible refine (ledger_Long.calls k _ _ y193 10 false _ ?side1 ?side2 A26.out).mono ?_); (case side1 => repeat (first | exact (Kd.R_reads' HO195.out).2.2 | (with_reducible refine Kd.C_alloc ?_ _) | (with_reducible refine Kd.C_drewN ?_ _) | (with_reducible refine Kd.C_drew ?_))); (case side2 => exact (Kd.R_reads' HO195.out).2.1); rintro e w45 ⟨rfl, hb⟩; have n0_ := Aside0.mk (Kd.R_below (by (with_reducible repeat (first | apply Kd.R_alloc | apply Kd.R_drewN | apply Kd.R_drew)); exact HO195.out) hb); have n1_ := Aside0.mk (Kd.R_below (by (with_reducible repeat (first | apply Kd.R_alloc | apply Kd.R_drewN | apply Kd.R_drew)); exact HO198.out) hb); have n2_ := Aside0.mk (Kd.R_below (by (with_reducible repeat (first | apply Kd.R_alloc | apply Kd.R_drewN | apply Kd.R_drew)); exact HO202.out) hb); have n3_ := Aside0.mk (Kd.R_below (by (with_reducible repeat (first | apply Kd.R_alloc | apply Kd.R_drewN | apply Kd.R_drew)); exact HO204.out) hb); have n4_ := Aside0.mk (Kd.R_below (by (with_reducible repeat (first | apply Kd.R_alloc | apply Kd.R_drewN | apply Kd.R_drew)); exact HO209.out) hb); have n5_ := Aside0.mk (Kd.R_below (by (with_reducible repeat (first | apply Kd.R_alloc | apply Kd.R_drewN | apply Kd.R_drew)); exact HO211.out) hb); have n6_ := Aside0.mk (Kd.R_below (by (with_reducible repeat (first | apply Kd.R_alloc | apply Kd.R_drewN | apply Kd.R_drew)); exact HO216.out) hb); have n7_ := Aside0.mk (Kd.R_below (by (with_reducible repeat (first | apply Kd.R_alloc | apply Kd.R_drewN | apply Kd.R_drew)); exact HO218.out) hb); have n8_ := Aside0.mk (below_step (by repeat (first | (with_reducible first | exact HB.out | apply below_alloc | apply pw_below_drewN | apply below_drew1) | exact HB.out)) hb); clear HO195; clear HO198; clear HO202; clear HO204; clear HO209; clear HO211; clear HO216; clear HO218; clear HB; have HO195 := n0_; have HO198 := n1_; have HO202 := n2_; have HO204 := n3_; have HO209 := n4_; have HO211 := n5_; have HO216 := n6_; have HO218 := n7_; have HB := n8_; clear n0_ n1_ n2_ n3_ n4_ n5_ n6_ n7_ n8_; (try clear hb); (try clear hb2); (try clear hk); (try clear hi)))
                        go_ret
                        exact ⟨by first | rfl | (simp [errW_none, errW_some] <;> rfl) | (simp [*, errW_none, errW_some] <;> rfl), by repeat (first | (with_reducible first | exact HB.out | apply below_alloc | apply pw_below_drewN | apply below_drew1) | exact HB.out)⟩
                    · rw [if_neg c25] at H
                      have c25b0 : (t220 == 300) = false := beq_eq_false_iff_ne.mpr c25
                      have c25b1 : (t220 != 300) = true := bne_iff_ne.mpr c25
                      obtain rfl := Option.some.inj H
                      obtain ⟨Ao46, co46, eo46⟩ := Kd.R_slice HO202.out
                      subst eo46
                      obtain ⟨Ao47, co47, eo47⟩ := Kd.R_slice HO204.out
                      subst eo47
                      obtain ⟨Ao48, co48, eo48⟩ := Kd.R_slice HO209.out
                      subst eo48
                      obtain ⟨Ao49, co49, eo49⟩ := Kd.R_slice HO211.out
                      subst eo49
                      obtain ⟨Ao50, co50, eo50⟩ := Kd.R_slice HO216.out
                      subst eo50
                      obtain ⟨Ao51, co51, eo51⟩ := Kd.R_slice HO218.out
                      subst eo51
                      go_wp2_with (first | (go_at_call 15; (with_reducible refine (ledger_Check.calls k _ _ y193 true _ ?side1 ?side2 A22.out).mono ?_); (case side1 => repeat (first | exact (Kd.R_reads' HO195.out).2.2 | (with_reducible refine Kd.C_alloc ?_ _) | (with_reducible refine Kd.C_drewN ?_ _) | (with_reducible refine Kd.C_drew ?_))); (case side2 => exact (Kd.R_reads' HO195.out).2.1); rintro e w' ⟨rfl, ⟨nd, rfl⟩⟩) | (go_at_call 17; (with_reducible refine (ledger_Flight.calls k _ _ y193 t220 _ ?side1 ?side2 A24.out).mono ?_); (case side1 => repeat (first | exact (Kd.R_reads' HO195.out).2.2 | (with_reducible refine Kd.C_alloc ?_ _) | (with_reducible refine Kd.C_drewN ?_ _) | (with_reducible refine Kd.C_drew ?_))); (case side2 => exact (Kd.R_reads' HO195.out).2.1); rintro e w52 ⟨rfl, hb⟩; have n0_ := Aside0.mk (Kd.R_below (by (with_reducible repeat (first | apply Kd.R_alloc | apply Kd.R_drewN | apply Kd.R_drew)); exact HO195.out) hb); have n1_ := Aside0.mk (Kd.R_below (by (with_reducible repeat (first | apply Kd.R_alloc | apply Kd.R_drewN | apply Kd.R_drew)); exact HO198.out) hb); have n2_ := Aside0.mk (Kd.R_below (by (with_reducible repeat (first | apply Kd.R_alloc | apply Kd.R_drewN | apply Kd.R_drew)); exact HO202.out) hb); have n3_ := Aside0.mk (Kd.R_below (by (with_reducible repeat (first | apply Kd.R_alloc | apply Kd.R_drewN | apply Kd.R_drew)); exact HO204.out) hb); have n4_ := Aside0.mk (Kd.R_below (by (with_reducible repeat (first | apply Kd.R_alloc | apply Kd.R_drewN | apply Kd.R_drew)); exact HO209.out) hb); have n5_ := Aside0.mk (Kd.R_below (by (with_reducible repeat (first | apply Kd.R_alloc | apply Kd.R_drewN | apply Kd.R_drew)); exact HO211.out) hb); have n6_ := Aside0.mk (Kd.R_below (by (with_reducible repeat (first | apply Kd.R_alloc | apply Kd.R_drewN | apply Kd.R_drew)); exact HO216.out) hb); have n7_ := Aside0.mk (Kd.R_below (by (with_reducible repeat (first | apply Kd.R_alloc | apply Kd.R_drewN | apply Kd.R_drew)); exact HO218.out) hb); have n8_ := Aside0.mk (below_step (by repeat (first | (with_reducible first | exact HB.out | apply below_alloc | apply pw_below_drewN | apply below_drew1) | exact HB.out)) hb); clear HO195; clear HO198; clear HO202; clear HO204; clear HO209; clear HO211; clear HO216; clear HO218; clear HB; have HO195 := n0_; have HO198 := n1_; have HO202 := n2_; have HO204 := n3_; have HO209 := n4_; have HO211 := n5_; have HO216 := n6_; have HO218 := n7_; have HB := n8_; clear n0_ n1_ n2_ n3_ n4_ n5_ n6_ n7_ n8_; (try clear hb); (try clear hb2); (try clear hk); (try clear hi)))
                      go_ret
                      exact ⟨by first | rfl | (simp [errW_none, errW_some] <;> rfl) | (simp [*, errW_none, errW_some] <;> rfl), by repeat (first | (with_reducible first | exact HB.out | apply below_alloc | apply pw_below_drewN | apply below_drew1) | exact HB.out)⟩
                  · replace c23 := Bool.eq_false_iff.mpr c23
                    subst c23
                    have H1 : (some false) = some r := by rw [if_neg (show ¬ (false = true) by decide)] at H; exact H
                    clear H
                    have H := H1
                    clear H1
                    obtain rfl := Option.some.inj H
                    obtain ⟨Ao53, co53, eo53⟩ := Kd.R_slice HO202.out
                    subst eo53
                    obtain ⟨Ao54, co54, eo54⟩ := Kd.R_slice HO204.out
                    subst eo54
                    obtain ⟨Ao55, co55, eo55⟩ := Kd.R_slice HO209.out
                    subst eo55
                    obtain ⟨Ao56, co56, eo56⟩ := Kd.R_slice HO211.out
                    subst eo56
                    obtain ⟨Ao57, co57, eo57⟩ := Kd.R_slice HO216.out
                    subst eo57
                    obtain ⟨Ao58, co58, eo58⟩ := Kd.R_slice HO218.out
                    subst eo58
                    go_wp2_with (first | (go_at_call 15; (with_reducible refine (ledger_Check.calls k _ _ y193 false _ ?side1 ?side2 A22.out).mono ?_); (case side1 => repeat (first | exact (Kd.R_reads' HO195.out).2.2 | (with_reducible refine Kd.C_alloc ?_ _) | (with_reducible refine Kd.C_drewN ?_ _) | (with_reducible refine Kd.C_drew ?_))); (case side2 => exact (Kd.R_reads' HO195.out).2.1); rintro e w' ⟨rfl, ⟨nd, rfl⟩⟩))
                    go_ret
                    exact ⟨by first | rfl | (simp [errW_none, errW_some] <;> rfl) | (simp [*, errW_none, errW_some] <;> rfl), by repeat (first | (with_reducible first | exact HB.out | apply below_alloc | apply pw_below_drewN | apply below_drew1) | exact HB.out)⟩
                · rw [if_neg c21] at H
                  have c21b0 : (t214 == 110) = false := beq_eq_false_iff_ne.mpr c21
                  have c21b1 : (t214 != 110) = true := bne_iff_ne.mpr c21
                  obtain rfl := Option.some.inj H
                  obtain ⟨Ao59, co59, eo59⟩ := Kd.R_slice HO202.out
                  subst eo59
                  obtain ⟨Ao60, co60, eo60⟩ := Kd.R_slice HO204.out
                  subst eo60
                  obtain ⟨Ao61, co61, eo61⟩ := Kd.R_slice HO209.out
                  subst eo61
                  obtain ⟨Ao62, co62, eo62⟩ := Kd.R_slice HO211.out
                  subst eo62
                  obtain ⟨Ao63, co63, eo63⟩ := Kd.R_slice HO216.out
                  subst eo63
                  obtain ⟨Ao64, co64, eo64⟩ := Kd.R_slice HO218.out
                  subst eo64
                  go_wp2
                  go_ret
                  exact ⟨by first | rfl | (simp [errW_none, errW_some] <;> rfl) | (simp [*, errW_none, errW_some] <;> rfl), by repeat (first | (with_reducible first | exact HB.out | apply below_alloc | apply pw_below_drewN | apply below_drew1) | exact HB.out)⟩
              · rw [if_neg c20] at H
                have c20b0 : ((t213.length : Int) == 3) = false := beq_eq_false_iff_ne.mpr c20
                have c20b1 : ((t213.length : Int) != 3) = true := bne_iff_ne.mpr c20
                obtain rfl := Option.some.inj H
                obtain ⟨Ao65, co65, eo65⟩ := Kd.R_slice HO202.out
                subst eo65
                obtain ⟨Ao66, co66, eo66⟩ := Kd.R_slice HO204.out
                subst eo66
                obtain ⟨Ao67, co67, eo67⟩ := Kd.R_slice HO209.out
                subst eo67
                obtain ⟨Ao68, co68, eo68⟩ := Kd.R_slice HO211.out
                subst eo68
                obtain ⟨Ao69, co69, eo69⟩ := Kd.R_slice HO216.out
                subst eo69
                obtain ⟨Ao70, co70, eo70⟩ := Kd.R_slice HO218.out
                subst eo70
                go_wp2
                go_ret
                exact ⟨by first | rfl | (simp [errW_none, errW_some] <;> rfl) | (simp [*, errW_none, errW_some] <;> rfl), by repeat (first | (with_reducible first | exact HB.out | apply below_alloc | apply pw_below_drewN | apply below_drew1) | exact HB.out)⟩
            · rw [if_neg c19] at H
              have c19b0 : ((t212.length : Int) == 0) = false := beq_eq_false_iff_ne.mpr c19
              have c19b1 : ((t212.length : Int) != 0) = true := bne_iff_ne.mpr c19
              have c19b2 : ¬ (t212 = []) := fun h_ => c19 (by rw [h_]; rfl)
              obtain rfl := Option.some.inj H
              obtain ⟨Ao71, co71, eo71⟩ := Kd.R_slice HO202.out
              subst eo71
              obtain ⟨Ao72, co72, eo72⟩ := Kd.R_slice HO204.out
              subst eo72
              obtain ⟨Ao73, co73, eo73⟩ := Kd.R_slice HO209.out
              subst eo73
              obtain ⟨Ao74, co74, eo74⟩ := Kd.R_slice HO211.out
              subst eo74
              obtain ⟨Ao75, co75, eo75⟩ := Kd.R_slice HO216.out
              subst eo75
              go_wp2
              go_ret
              exact ⟨by first | rfl | (simp [errW_none, errW_some] <;> rfl) | (simp [*, errW_none, errW_some] <;> rfl), by repeat (first | (with_reducible first | exact HB.out | apply below_alloc | apply pw_below_drewN | apply below_drew1) | exact HB.out)⟩
          · rw [if_neg c18] at H
            have c18b0 : (t207 == 0) = false := beq_eq_false_iff_ne.mpr c18
            have c18b1 : (t207 != 0) = true := bne_iff_ne.mpr c18
            obtain rfl := Option.some.inj H
            obtain ⟨Ao76, co76, eo76⟩ := Kd.R_slice HO202.out
            subst eo76
            obtain ⟨Ao77, co77, eo77⟩ := Kd.R_slice HO204.out
            subst eo77
            obtain ⟨Ao78, co78, eo78⟩ := Kd.R_slice HO209.out
            subst eo78
            obtain ⟨Ao79, co79, eo79⟩ := Kd.R_slice HO211.out
            subst eo79
            go_wp2
            go_ret
            exact ⟨by first | rfl | (simp [errW_none, errW_some] <;> rfl) | (simp [*, errW_none, errW_some] <;> rfl), by repeat (first | (with_reducible first | exact HB.out | apply below_alloc | apply pw_below_drewN | apply below_drew1) | exact HB.out)⟩
        · rw [if_neg c17] at H
          have c17b0 : ((t206.length : Int) == 1) = false := beq_eq_false_iff_ne.mpr c17
          have c17b1 : ((t206.length : Int) != 1) = true := bne_iff_ne.mpr c17
          obtain rfl := Option.some.inj H
          obtain ⟨Ao80, co80, eo80⟩ := Kd.R_slice HO202.out
          subst eo80
          obtain ⟨Ao81, co81, eo81⟩ := Kd.R_slice HO204.out
          subst eo81
          obtain ⟨Ao82, co82, eo82⟩ := Kd.R_slice HO209.out
          subst eo82
          obtain ⟨Ao83, co83, eo83⟩ := Kd.R_slice HO211.out
          subst eo83
          go_wp2
          go_ret
          exact ⟨by first | rfl | (simp [errW_none, errW_some] <;> rfl) | (simp [*, errW_none, errW_some] <;> rfl), by repeat (first | (with_reducible first | exact HB.out | apply below_alloc | apply pw_below_drewN | apply below_drew1) | exact HB.out)⟩
      · rw [if_neg c16] at H
        have c16b0 : ((t205.length : Int) == 2) = false := beq_eq_false_iff_ne.mpr c16
        have c16b1 : ((t205.length : Int) != 2) = true := bne_iff_ne.mpr c16
        obtain rfl := Option.some.inj H
        obtain ⟨Ao84, co84, eo84⟩ := Kd.R_slice HO202.out
        subst eo84
        obtain ⟨Ao85, co85, eo85⟩ := Kd.R_slice HO204.out
        subst eo85
        obtain ⟨Ao86, co86, eo86⟩ := Kd.R_slice HO209.out
        subst eo86
        go_wp2
        go_ret
        exact ⟨by first | rfl | (simp [errW_none, errW_some] <;> rfl) | (simp [*, errW_none, errW_some] <;> rfl), by repeat (first | (with_reducible first | exact HB.out | apply below_alloc | apply pw_below_drewN | apply below_drew1) | exact HB.out)⟩
    · rw [if_neg c15] at H
      have c15b0 : ((t200.length : Int) == 1) = false := beq_eq_false_iff_ne.mpr c15
      have c15b1 : ((t200.length : Int) != 1) = true := bne_iff_ne.mpr c15
      obtain rfl := Option.some.inj H
      obtain ⟨Ao87, co87, eo87⟩ := Kd.R_slice HO202.out
      subst eo87
      obtain ⟨Ao88, co88, eo88⟩ := Kd.R_slice HO204.out
      subst eo88
      go_wp2
      go_ret
      exact ⟨by first | rfl | (simp [errW_none, errW_some] <;> rfl) | (simp [*, errW_none, errW_some] <;> rfl), by repeat (first | (with_reducible first | exact HB.out | apply below_alloc | apply pw_below_drewN | apply below_drew1) | exact HB.out)⟩
  · rw [if_neg c14] at H
    have c14b0 : ((t199.length : Int) == 2) = false := beq_eq_false_iff_ne.mpr c14
    have c14b1 : ((t199.length : Int) != 2) = true := bne_iff_ne.mpr c14
    obtain rfl := Option.some.inj H
    obtain ⟨Ao89, co89, eo89⟩ := Kd.R_slice HO202.out
    subst eo89
    go_wp2
    go_ret
    exact ⟨by first | rfl | (simp [errW_none, errW_some] <;> rfl) | (simp [*, errW_none, errW_some] <;> rfl), by repeat (first | (with_reducible first | exact HB.out | apply below_alloc | apply pw_below_drewN | apply below_drew1) | exact HB.out)⟩

end Go.Proofs.Ytfgmikhlplbmeaa.P
