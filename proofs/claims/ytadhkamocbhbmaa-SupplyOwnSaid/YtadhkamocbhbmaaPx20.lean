-- Printed for this claim by xprint.py of this session: contracts of this session's own stand in for what the print does not take
import Derived.Test.YtadhkamocbhbmaaPx0
import Derived.Test.YtadhkamocbhbmaaPx7
import Derived.Test.YtadhkamocbhbmaaPx10
namespace Go.Proofs.Ytadhkamocbhbmaa.P
open Go.RowKit Go.Proofs.YtadhkamocbhbmaaW.PrintWords Go.Proofs.YtadhkamocbhbmaaW.PrintLast Go.Proofs.YtadhkamocbhbmaaW.PrintMore
attribute [local go_sem] max2_int min2_int max_two min_two max_three min_three max_four min_four   -- for this text's walks alone
set_option linter.unusedVariables false
set_option linter.unusedSimpArgs false

/-! ### supply_Next_own: function 10 -/
def supply_Next_own.f (a0_0 : Int) (l0_1 : List Int) (l0_2 : List S37) (l0_3 : List S37) (a0_4 : Bool) (a0_5 : Bool) (a0_6 : Bool) (a1 : Int) (a2 : Int) : Option (Int × List Int × List S37 × List S37 × Bool × Bool × Bool × Int × List Int × Bool × Bool) :=
  if l0_1.length < 1000000000 ∧ l0_2.length < 1000000000 ∧ l0_3.length < 1000000000 ∧ 0 ≤ a0_0 ∧ a0_0 + (l0_1.length : Int) ≤ 4611686018427387904 then
    if l0_2.length = 0 then (if a0_5 = false then (if l0_1 = [] ∧ l0_2 = [] ∧ l0_3 = [] then some (a0_0, l0_1, l0_2, l0_3, a0_4, a0_5, a0_6, 0, [], false, false) else none) else supply_Next.part a0_0 l0_1 l0_2 l0_3 a0_4 a0_5 a0_6 (a0_0 + (l0_1.length : Int)) (a0_0 + (l0_1.length : Int)))
    else if a1 ≤ 0 ∨ mn (rd_T37 l0_2 0).f1 a2 ≤ (rd_T37 l0_2 0).f0 then (if l0_1 = [] ∧ l0_2 = [] ∧ l0_3 = [] then some (a0_0, l0_1, l0_2, l0_3, a0_4, a0_5, a0_6, 0, [], false, false) else none)
    else supply_Next.part a0_0 l0_1 l0_2 l0_3 a0_4 a0_5 a0_6 (rd_T37 l0_2 0).f0 (mn (mn (rd_T37 l0_2 0).f1 a2) (IntKind.u64.wrap ((rd_T37 l0_2 0).f0 + IntKind.u64.wrap a1)))
  else none
set_option maxHeartbeats 8000000 in
set_option maxRecDepth 100000 in
theorem supply_Next_own.calls (a0_0 : Int) (A0_1 : Option Addr) (c0_1 : Nat) (l0_1 : List Int) (A0_2 : Option Addr) (c0_2 : Nat) (l0_2 : List S37) (A0_3 : Option Addr) (c0_3 : Nat) (l0_3 : List S37) (a0_4 : Bool) (a0_5 : Bool) (a0_6 : Bool) (a1 : Int) (a2 : Int) (r1 : Int) (r2 : List Int) (r3 : List S37) (r4 : List S37) (r5 : Bool) (r6 : Bool) (r7 : Bool) (r8 : Int) (r9 : List Int) (r10 : Bool) (r11 : Bool) (w : World)
    (hr0_1 : Kd.C (Kd.int .u8) w A0_1 l0_1.length l0_1) (hc0_1 : l0_1.length ≤ c0_1) (hr0_2 : Kd.C k37 w A0_2 l0_2.length l0_2) (hc0_2 : l0_2.length ≤ c0_2) (hr0_3 : Kd.C k37 w A0_3 l0_3.length l0_3) (hc0_3 : l0_3.length ≤ c0_3) (h : supply_Next_own.f a0_0 l0_1 l0_2 l0_3 a0_4 a0_5 a0_6 a1 a2 = some (r1, r2, r3, r4, r5, r6, r7, r8, r9, r10, r11)) :
    Calls Try.prog 10 #[.agg #[.int .u64 a0_0, .slice A0_1 l0_1.length c0_1, .slice A0_2 l0_2.length c0_2, .slice A0_3 l0_3.length c0_3, .bool a0_4, .bool a0_5, .bool a0_6], .int .i64 a1, .int .u64 a2] w fun e w' => ∃ v1_ v2_ v3_ v8_ : Value, e = .returned (.tuple #[.agg #[.int .u64 r1, v1_, v2_, v3_, .bool r5, .bool r6, .bool r7], .agg #[.int .u64 r8, v8_, .bool r10], .bool r11]) ∧ Kd.V (Kd.int .u8) 5 w' w.heap.size (fun k_ => (w.heap.size ≤ k_) ∧ some k_ ≠ (v8_ : Value).ownBlock) v1_ r2 ∧ Kd.V k37 37 w' w.heap.size (fun k_ => (w.heap.size ≤ k_) ∧ some k_ ≠ (v8_ : Value).ownBlock) v2_ r3 ∧ Kd.V k37 37 w' w.heap.size (fun k_ => (w.heap.size ≤ k_) ∧ some k_ ≠ (v8_ : Value).ownBlock) v3_ r4 ∧ Kd.R (Kd.int .u8) 5 w' w.heap.size (fun k_ => (w.heap.size ≤ k_)) v8_ r9 ∧ Below w.heap.size w w' := by
  unfold supply_Next_own.f at h
  by_cases hL : l0_1.length < 1000000000 ∧ l0_2.length < 1000000000 ∧ l0_3.length < 1000000000 ∧ 0 ≤ a0_0 ∧ a0_0 + (l0_1.length : Int) ≤ 4611686018427387904
  case neg => rw [if_neg hL] at h; cases h
  rw [if_pos hL] at h
  have hN : (Calls Try.prog 10 #[.agg #[.int .u64 a0_0, .slice A0_1 l0_1.length c0_1, .slice A0_2 l0_2.length c0_2, .slice A0_3 l0_3.length c0_3, .bool a0_4, .bool a0_5, .bool a0_6], .int .i64 a1, .int .u64 a2] w fun e w' => e = .returned (.tuple #[.agg #[.int .u64 a0_0, .slice A0_1 l0_1.length c0_1, .slice A0_2 l0_2.length c0_2, .slice A0_3 l0_3.length c0_3, .bool a0_4, .bool a0_5, .bool a0_6], .agg #[.int .u64 0, .slice none 0 0, .bool false], .bool false]) ∧ Below w.heap.size w w') → (if l0_1 = [] ∧ l0_2 = [] ∧ l0_3 = [] then some (a0_0, l0_1, l0_2, l0_3, a0_4, a0_5, a0_6, 0, [], false, false) else none) = some (r1, r2, r3, r4, r5, r6, r7, r8, r9, r10, r11) → Calls Try.prog 10 #[.agg #[.int .u64 a0_0, .slice A0_1 l0_1.length c0_1, .slice A0_2 l0_2.length c0_2, .slice A0_3 l0_3.length c0_3, .bool a0_4, .bool a0_5, .bool a0_6], .int .i64 a1, .int .u64 a2] w fun e w' => ∃ v1_ v2_ v3_ v8_ : Value, e = .returned (.tuple #[.agg #[.int .u64 r1, v1_, v2_, v3_, .bool r5, .bool r6, .bool r7], .agg #[.int .u64 r8, v8_, .bool r10], .bool r11]) ∧ Kd.V (Kd.int .u8) 5 w' w.heap.size (fun k_ => (w.heap.size ≤ k_) ∧ some k_ ≠ (v8_ : Value).ownBlock) v1_ r2 ∧ Kd.V k37 37 w' w.heap.size (fun k_ => (w.heap.size ≤ k_) ∧ some k_ ≠ (v8_ : Value).ownBlock) v2_ r3 ∧ Kd.V k37 37 w' w.heap.size (fun k_ => (w.heap.size ≤ k_) ∧ some k_ ≠ (v8_ : Value).ownBlock) v3_ r4 ∧ Kd.R (Kd.int .u8) 5 w' w.heap.size (fun k_ => (w.heap.size ≤ k_)) v8_ r9 ∧ Below w.heap.size w w' := by
    intro hc hr
    by_cases hz : l0_1 = [] ∧ l0_2 = [] ∧ l0_3 = []
    case neg => rw [if_neg hz] at hr; cases hr
    rw [if_pos hz] at hr
    obtain ⟨hz1, hz2, hz3⟩ := hz
    simp only [Option.some.injEq, Prod.mk.injEq] at hr
    obtain ⟨rfl, rfl, rfl, rfl, rfl, rfl, rfl, rfl, rfl, rfl, rfl⟩ := hr
    refine hc.mono ?_
    rintro e w' ⟨rfl, hb⟩
    exact ⟨_, _, _, _, rfl, (Kd.V_mk hc0_1 (fun _ _ => ⟨rfl, by rw [hz1]; simp, fun h_ => absurd h_ (by rw [hz1]; simp)⟩)), (Kd.V_mk hc0_2 (fun _ _ => ⟨rfl, by rw [hz2]; simp, fun h_ => absurd h_ (by rw [hz2]; simp)⟩)), (Kd.V_mk hc0_3 (fun _ _ => ⟨rfl, by rw [hz3]; simp, fun h_ => absurd h_ (by rw [hz3]; simp)⟩)), Kd.R_nil _ _ _ _ _, hb⟩
  have hF : ∀ (off tz : Int), supply_Next.part a0_0 l0_1 l0_2 l0_3 a0_4 a0_5 a0_6 off tz = some (r1, r2, r3, r4, r5, r6, r7, r8, r9, r10, r11) → (∀ (p q : Nat) (cf : Bool) (t2 : List S37) (y : List Int), y = (l0_1.take q).drop p → span_Cut.f l0_2 off tz = some t2 → off - a0_0 = (p : Int) → tz - a0_0 = (q : Int) → p ≤ q → q ≤ l0_1.length → cf = (a0_5 && (tz == a0_0 + (l0_1.length : Int))) → Calls Try.prog 10 #[.agg #[.int .u64 a0_0, .slice A0_1 l0_1.length c0_1, .slice A0_2 l0_2.length c0_2, .slice A0_3 l0_3.length c0_3, .bool a0_4, .bool a0_5, .bool a0_6], .int .i64 a1, .int .u64 a2] w fun e w' => ∃ v1_ v2_ v3_ v8_ : Value, e = .returned (.tuple #[.agg #[.int .u64 a0_0, v1_, v2_, v3_, .bool a0_4, .bool (a0_5 && !cf), .bool a0_6], .agg #[.int .u64 off, v8_, .bool cf], .bool true]) ∧ Kd.R (Kd.int .u8) 5 w' w.heap.size (fun k_ => some k_ ≠ (v8_ : Value).ownBlock) v1_ l0_1 ∧ Kd.R k37 37 w' w.heap.size (fun k_ => some k_ ≠ (v8_ : Value).ownBlock) v2_ t2 ∧ Kd.R k37 37 w' w.heap.size (fun k_ => some k_ ≠ (v8_ : Value).ownBlock) v3_ l0_3 ∧ Kd.R (Kd.int .u8) 5 w' w.heap.size (fun _ => True) v8_ y ∧ Below w.heap.size w w') → Calls Try.prog 10 #[.agg #[.int .u64 a0_0, .slice A0_1 l0_1.length c0_1, .slice A0_2 l0_2.length c0_2, .slice A0_3 l0_3.length c0_3, .bool a0_4, .bool a0_5, .bool a0_6], .int .i64 a1, .int .u64 a2] w fun e w' => ∃ v1_ v2_ v3_ v8_ : Value, e = .returned (.tuple #[.agg #[.int .u64 r1, v1_, v2_, v3_, .bool r5, .bool r6, .bool r7], .agg #[.int .u64 r8, v8_, .bool r10], .bool r11]) ∧ Kd.V (Kd.int .u8) 5 w' w.heap.size (fun k_ => (w.heap.size ≤ k_) ∧ some k_ ≠ (v8_ : Value).ownBlock) v1_ r2 ∧ Kd.V k37 37 w' w.heap.size (fun k_ => (w.heap.size ≤ k_) ∧ some k_ ≠ (v8_ : Value).ownBlock) v2_ r3 ∧ Kd.V k37 37 w' w.heap.size (fun k_ => (w.heap.size ≤ k_) ∧ some k_ ≠ (v8_ : Value).ownBlock) v3_ r4 ∧ Kd.R (Kd.int .u8) 5 w' w.heap.size (fun k_ => (w.heap.size ≤ k_)) v8_ r9 ∧ Below w.heap.size w w' := by
    intro off tz hp hc
    unfold supply_Next.part at hp
    by_cases hq : a0_0 ≤ off ∧ off ≤ tz ∧ tz ≤ a0_0 + (l0_1.length : Int)
    case neg => rw [if_neg hq] at hp; cases hp
    rw [if_pos hq] at hp
    obtain ⟨t2, hT, hp⟩ := Option.bind_eq_some_iff.mp hp
    simp only [Option.some.injEq, Prod.mk.injEq] at hp
    obtain ⟨rfl, rfl, rfl, rfl, rfl, rfl, rfl, rfl, rfl, rfl, rfl⟩ := hp
    refine (hc (off - a0_0).toNat (tz - a0_0).toNat _ t2 _ rfl hT (by omega) (by omega) (by omega) (by omega) rfl).mono ?_
    rintro e w' ⟨v1, v2, v3, v8, rfl, h1, h2, h3, h8, hb⟩
    exact ⟨v1, v2, v3, v8, rfl, Kd.R_V (Kd.R_mono (Kd.R_bound h1) (fun k hk => ⟨hk.2.1, hk.1⟩)), Kd.R_V (Kd.R_mono (Kd.R_bound h2) (fun k hk => ⟨hk.2.1, hk.1⟩)), Kd.R_V (Kd.R_mono (Kd.R_bound h3) (fun k hk => ⟨hk.2.1, hk.1⟩)), Kd.R_mono (Kd.R_bound h8) (fun k hk => hk.2.1), hb⟩
  by_cases k0 : l0_2.length = 0
  · rw [if_pos k0] at h
    cases a0_5 with
    | false =>
      rw [if_pos rfl] at h
      exact hN (supply_Next.none0 a0_0 A0_1 c0_1 l0_1 A0_2 c0_2 l0_2 A0_3 c0_3 l0_3 a0_4 false a0_6 a1 a2 w hr0_1 hc0_1 hr0_2 hc0_2 hr0_3 hc0_3 hL k0 rfl) h
    | true =>
      rw [if_neg (by decide)] at h
      refine hF _ _ h ?_
      intro p q cf t2 y hy hT hp hq hpq hqd hcf
      exact supply_Next.end a0_0 A0_1 c0_1 l0_1 A0_2 c0_2 l0_2 A0_3 c0_3 l0_3 a0_4 true a0_6 a1 a2 _ _ p q cf t2 y w hr0_1 hc0_1 hr0_2 hc0_2 hr0_3 hc0_3 hL rfl k0 rfl rfl hy hT hp hq hpq hqd hcf
  · rw [if_neg k0] at h
    by_cases k1 : a1 ≤ 0 ∨ mn (rd_T37 l0_2 0).f1 a2 ≤ (rd_T37 l0_2 0).f0
    · rw [if_pos k1] at h
      exact hN (supply_Next.none1 a0_0 A0_1 c0_1 l0_1 A0_2 c0_2 l0_2 A0_3 c0_3 l0_3 a0_4 a0_5 a0_6 a1 a2 w hr0_1 hc0_1 hr0_2 hc0_2 hr0_3 hc0_3 hL (by omega) k1) h
    · rw [if_neg k1] at h
      refine hF _ _ h ?_
      intro p q cf t2 y hy hT hp hq hpq hqd hcf
      exact supply_Next.part_ a0_0 A0_1 c0_1 l0_1 A0_2 c0_2 l0_2 A0_3 c0_3 l0_3 a0_4 a0_5 a0_6 a1 a2 _ _ p q cf t2 y _ _ w hr0_1 hc0_1 hr0_2 hc0_2 hr0_3 hc0_3 hL (by omega) (by omega) rfl rfl (by omega) rfl rfl hy hT hp hq hpq hqd hcf

end Go.Proofs.Ytadhkamocbhbmaa.P
