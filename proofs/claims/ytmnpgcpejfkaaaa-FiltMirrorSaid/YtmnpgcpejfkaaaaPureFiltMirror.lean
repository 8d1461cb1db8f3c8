/- The least values' list is the greatest ones' with all values turned about: a number of 64 bits turned about is the greatest number less it. -/
import Derived.Test.YtmnpgcpejfkaaaaXa
import Derived.Test.YtmnpgcpejfkaaaaStmFiltMirror
namespace Go.Proofs.Ytmnpgcpejfkaaaa.Pure
open Go.RowKit Go.Proofs.Ytmnpgcpejfkaaaa.P Go.Proofs.YtmnpgcpejfkaaaaW.PrintWords Go.Proofs.YtmnpgcpejfkaaaaW.PrintLast
theorem turned {x : Int} (h : Wd x) : Go.bits .xor .u64 18446744073709551615 x = 18446744073709551615 - x := by
  obtain ⟨h0, h1⟩ := h
  obtain ⟨n, rfl⟩ := Int.eq_ofNat_of_zero_le h0
  have e := bits_xor_u64_nat 18446744073709551615 n (by omega) (by omega)
  have e2 : (18446744073709551615 ^^^ n : Nat) = 18446744073709551615 - n := by
    have hb : (BitVec.allOnes 64 ^^^ BitVec.ofNat 64 n).toNat = 18446744073709551615 - n := by
      rw [BitVec.allOnes_xor, BitVec.toNat_not, BitVec.toNat_ofNat, Nat.mod_eq_of_lt (by omega)]
    rw [BitVec.toNat_xor, BitVec.toNat_allOnes, BitVec.toNat_ofNat, Nat.mod_eq_of_lt (by omega)] at hb
    exact hb
  rw [e2] at e
  refine Eq.trans e ?_
  omega
def mir (x : S25) : S25 := ⟨x.f0, 18446744073709551615 - x.f1⟩
theorem mir_ws {x : S25} (h : Ws x) : Ws (mir x) := by
  obtain ⟨h1, h2, h3⟩ := h
  exact ⟨h1, by show (0:Int) ≤ 18446744073709551615 - x.f1; omega, by show 18446744073709551615 - x.f1 < (18446744073709551616:Int); omega⟩
theorem mir_mir (x : S25) : mir (mir x) = x := by
  unfold mir
  cases x
  simp
  omega
theorem mirrored_loop (l : List S25) (hl : ∀ x ∈ l, Ws x) (hn : l.length < 1000000) (d : Nat) : ∀ (j : Nat) (out : List S25) (k : Nat), j + d = l.length → out.length + d < 8796093022208 → d + 1 ≤ k →
    wigwaglaw02_mirrored.l0 k l out (j : Int) = some (out ++ (l.drop j).map mir) := by
  induction d with
  | zero =>
    intro j out k hj ho hk
    obtain ⟨k, rfl⟩ : ∃ m, k = m + 1 := ⟨k - 1, by omega⟩
    rw [wigwaglaw02_mirrored.l0, if_neg (by omega), List.drop_eq_nil_of_le (by omega)]
    simp
  | succ d ih =>
    intro j out k hj ho hk
    obtain ⟨k, rfl⟩ : ∃ m, k = m + 1 := ⟨k - 1, by omega⟩
    have hjl : j < l.length := by omega
    have hx := hl _ (List.getElem_mem hjl)
    have i1 := ih (j + 1) (out ++ [mir l[j]]) k (by omega) (by simp; omega) (by omega)
    rw [wigwaglaw02_mirrored.l0, if_pos (by omega), if_pos (by omega), if_pos (by omega), rd_at hjl, turned hx.v, up hjl hn]
    refine Eq.trans i1 ?_
    rw [List.drop_eq_getElem_cons hjl, List.map_cons, List.append_assoc]
    rfl
theorem mirrored_eq {l : List S25} (hl : ∀ x ∈ l, Ws x) (hn : l.length < 1000000) {k : Nat} (hk : l.length + 1 ≤ k) : wigwaglaw02_mirrored.f k l = some (l.map mir) := by
  unfold wigwaglaw02_mirrored.f
  exact mirrored_loop l hl hn l.length 0 [] k (by omega) (by simp; omega) (by omega)
theorem push_mir (w : Int) (s : S25) (l : List S25) : (push true w (mir s) (l.map mir)).map mir = push false w s l := by
  have hk : (keep true w (mir s)) ∘ mir = keep false w s := by
    funext x
    unfold keep vof mir
    simp only [Function.comp, if_true, Bool.false_eq_true, if_false]
    congr 1
    apply decide_eq_decide.mpr
    omega
  have hm : mir ∘ mir = id := by funext x; exact mir_mir x
  unfold push
  rw [List.filter_map, hk, List.map_append, List.map_map, hm, List.map_id]
  simp [mir_mir]
theorem FiltMirror : wigwaglaw02_FiltMirror.Pure := by
  intro l w s0 s1 hl hx hw h0 h1
  have hL : ∀ x ∈ l, Ws x := fun x h => ⟨wd_of (hx x h).1, wd_of (hx x h).2⟩
  have hS : Ws ⟨s0, s1⟩ := ⟨wd_of h0, wd_of h1⟩
  have hW := wd_of hw
  have hM : ∀ x ∈ l.map mir, Ws x := by
    intro x h
    obtain ⟨y, hy, rfl⟩ := List.mem_map.mp h
    exact mir_ws (hL y hy)
  refine ⟨1000, ?_⟩
  unfold wigwaglaw02_FiltMirror.f
  rw [awake_eq 1000 (by omega)]
  simp only [Option.bind_some]
  by_cases hn : (l.length : Int) > 300
  · rw [if_pos hn]
  · rw [if_neg hn]
    have hn' : l.length ≤ 300 := by omega
    have l1 := @push_len true w (mir ⟨s0, s1⟩) (l.map mir)
    have l2 := @push_len false w ⟨s0, s1⟩ l
    rw [List.length_map] at l1
    rw [turned hS.v, pmin (s := ⟨s0, s1⟩) hL (by omega) hW (show l.length + 1 ≤ 1000 by omega), mirrored_eq hL (by omega) (by omega)]
    simp only [Option.bind_some]
    have e := pmax (l := l.map mir) (s := mir ⟨s0, s1⟩) (w := w) (k := 1000) hM (by rw [List.length_map]; omega) hW (by rw [List.length_map]; omega)
    rw [show filt_PushMax.f 1000 (l.map mir) w s0 (18446744073709551615 - s1) = _ from e]
    simp only [Option.bind_some]
    rw [mirrored_eq (push_ws hM (mir_ws hS)) (by omega) (by omega), push_mir]
    simp only [Option.bind_some]
    rw [same_eq (by omega) (by omega)]
    simp
end Go.Proofs.Ytmnpgcpejfkaaaa.Pure
