/- Of samples that rise by their time, the head of a list is the best of all within the window. Kept along: whatever is within the window has one in the list that is as good and as late. Without the last part the window that moves on breaks it. -/
import Derived.Test.YtmnpgcpejfkaaaaXa
import Derived.Test.YtmnpgcpejfkaaaaPx15
namespace Go.Proofs.Ytmnpgcpejfkaaaa.Pure
open Go.RowKit Go.Proofs.Ytmnpgcpejfkaaaa.P Go.Proofs.YtmnpgcpejfkaaaaW.PrintWords Go.Proofs.YtmnpgcpejfkaaaaW.PrintLast
/-- What holds of a list H of all samples A, at a time. -/
structure Win (g : Bool) (w now : Int) (A H : List S25) : Prop where
  mem : ∀ h ∈ H, h ∈ A ∧ sadd h.f0 w ≥ now
  cov : ∀ a ∈ A, sadd a.f0 w ≥ now → ∃ h ∈ H, vof g h ≥ vof g a ∧ h.f0 ≥ a.f0
  ord : H.Pairwise (fun a b => vof g a > vof g b)
theorem sadd_up {a b w : Int} (h : a ≤ b) : sadd a w ≤ sadd b w := by unfold sadd; split <;> split <;> omega
theorem sadd_le {a w : Int} (hw : 0 ≤ w) (ha : a < 18446744073709551616) : a ≤ sadd a w := by unfold sadd; split <;> omega
theorem win_step {g : Bool} {w now : Int} {A H : List S25} {s : S25} (hW : Win g w now A H) (hw : 0 ≤ w) (h0 : now ≤ s.f0) (h1 : s.f0 < 18446744073709551616) (hA : ∀ a ∈ A, a.f0 ≤ s.f0) :
    Win g w s.f0 (A ++ [s]) (push g w s H) := by
  refine ⟨?_, ?_, ?_⟩
  · intro h hh
    unfold push at hh
    rcases List.mem_append.mp hh with q | q
    · obtain ⟨q1, q2⟩ := List.mem_filter.mp q
      unfold keep at q2
      simp at q2
      exact ⟨List.mem_append_left _ (hW.mem h q1).1, q2.1⟩
    · rw [List.mem_singleton.mp q]
      exact ⟨List.mem_append_right _ (List.mem_singleton.mpr rfl), sadd_le hw h1⟩
  · intro a ha hn
    have hs : s ∈ push g w s H := List.mem_append_right _ (List.mem_singleton.mpr rfl)
    rcases List.mem_append.mp ha with q | q
    · obtain ⟨h, hh, hv, ht⟩ := hW.cov a q (by omega)
      by_cases c : vof g h > vof g s
      · refine ⟨h, List.mem_append_left _ (List.mem_filter.mpr ⟨hh, ?_⟩), hv, ht⟩
        have := sadd_up (w := w) ht
        unfold keep
        simp
        omega
      · exact ⟨s, hs, by omega, hA a q⟩
    · rw [List.mem_singleton.mp q]
      exact ⟨s, hs, by omega, by omega⟩
  · unfold push
    rw [List.pairwise_append]
    refine ⟨hW.ord.sublist List.filter_sublist, List.pairwise_singleton _ _, ?_⟩
    intro a ha b hb
    rw [List.mem_singleton.mp hb]
    have := (List.mem_filter.mp ha).2
    unfold keep at this
    simp at this
    exact this.2
/-- The head of the list is the best of all within the window. -/
theorem win_best {g : Bool} {w now : Int} {A H : List S25} (hW : Win g w now A H) (hne : H ≠ []) : (H.headD z25) ∈ A ∧ sadd (H.headD z25).f0 w ≥ now ∧ ∀ a ∈ A, sadd a.f0 w ≥ now → vof g a ≤ vof g (H.headD z25) := by
  cases H with
  | nil => exact absurd rfl hne
  | cons h t =>
    obtain ⟨m1, m2⟩ := hW.mem h (List.mem_cons_self ..)
    refine ⟨m1, m2, ?_⟩
    intro a ha hn
    obtain ⟨b, hb, hv, _⟩ := hW.cov a ha hn
    show vof g a ≤ vof g h
    rcases List.mem_cons.mp hb with q | q
    · rw [← q]; exact hv
    · have := (List.pairwise_cons.mp hW.ord).1 b q
      omega
theorem scan {x0 x1 : List Int} {w : Int} {up_ : Bool} {A H L : List S25} {now : Int} {i : Int} (hA : ∀ a ∈ A, Ws a) (hn : A.length < 1000) (hw : Wd w) (hH : Win true w now A H) (hL : Win false w now A L) (hHn : H ≠ []) (hLn : L ≠ []) (d : Nat) :
    ∀ (j : Nat) (k : Nat) (M m : Int), j + d = A.length → d + 2 ≤ k →
      M ≤ (H.headD z25).f1 → (L.headD z25).f1 ≤ m → (∀ a ∈ A.take j, sadd a.f0 w ≥ now → a.f1 ≤ M ∧ m ≤ a.f1) →
      wigwaglaw02_FiltWindows.l0 (k - d - 1) x0 x1 w up_ A H L now (wrap64 (i + 1)) = some true →
      wigwaglaw02_FiltWindows.l1 k x0 x1 w up_ A H L now i M m (j : Int) = some true := by
  obtain ⟨b1, b2, b3⟩ := win_best hH hHn
  obtain ⟨c1, c2, c3⟩ := win_best hL hLn
  induction d with
  | zero =>
    intro j k M m hj hk hM hm hs hnext
    obtain ⟨k, rfl⟩ : ∃ m, k = m + 1 := ⟨k - 1, by omega⟩
    rw [List.take_of_length_le (by omega)] at hs
    have e1 : (H.headD z25).f1 = M := by have := (hs _ b1 b2).1; omega
    have e2 : (L.headD z25).f1 = m := by have := (hs _ c1 c2).2; omega
    rw [wigwaglaw02_FiltWindows.l1, if_neg (by omega), best_eq, best_eq]
    simp only [Option.bind_some]
    rw [if_pos e1, if_pos e2]
    exact hnext
  | succ d ih =>
    intro j k M m hj hk hM hm hs hnext
    obtain ⟨k, rfl⟩ : ∃ m, k = m + 1 := ⟨k - 1, by omega⟩
    have hjl : j < A.length := by omega
    have ha := hA _ (List.getElem_mem hjl)
    have hnx : wigwaglaw02_FiltWindows.l0 (k - d - 1) x0 x1 w up_ A H L now (wrap64 (i + 1)) = some true := by
      rw [show k - d - 1 = k + 1 - (d + 1) - 1 by omega]; exact hnext
    rw [wigwaglaw02_FiltWindows.l1, if_pos (by omega), if_pos (by omega), rd_at hjl, radd_eq ha.a hw, up hjl (by omega)]
    simp only [Option.bind_some]
    have tk : ∀ a ∈ A.take (j + 1), a ∈ A.take j ∨ a = A[j] := by
      intro a h
      rw [List.take_succ_eq_append_getElem hjl] at h
      rcases List.mem_append.mp h with q | q
      · exact .inl q
      · exact .inr (List.mem_singleton.mp q)
    by_cases c : sadd A[j].f0 w ≥ now
    · have v1 := b3 _ (List.getElem_mem hjl) c
      have v2 := c3 _ (List.getElem_mem hjl) c
      unfold vof at v1 v2
      simp only [if_true, Bool.false_eq_true, if_false] at v1 v2
      rw [if_pos c, mx_eq, mn_eq]
      refine ih (j + 1) k _ _ (by omega) (by omega) (by omega) (by omega) ?_ hnx
      intro a h hn
      rcases tk a h with q | q
      · have := hs a q hn
        exact ⟨by omega, by omega⟩
      · rw [q]; exact ⟨by omega, by omega⟩
    · rw [if_neg c]
      refine ih (j + 1) k M m (by omega) (by omega) hM hm ?_ hnx
      intro a h hn
      rcases tk a h with q | q
      · exact hs a q hn
      · rw [q] at hn; exact absurd hn c
theorem rd_in {l : List Int} {i : Int} (h0 : 0 ≤ i) (h1 : i < (l.length : Int)) : rd l i ∈ l := by
  unfold rd
  rw [List.getD_eq_getElem?_getD, List.getElem?_eq_getElem (by omega)]
  exact List.getElem_mem _
theorem u16_of {x : Int} (h : (Lit.int .u16 x).wf = true) : 0 ≤ x ∧ x < 65536 := by
  simp [Lit.wf, IntKind.min, IntKind.max, IntKind.signed, IntKind.bits] at h
  exact ⟨by omega, by omega⟩
theorem push_ne (g : Bool) (w : Int) (s : S25) (l : List S25) : push g w s l ≠ [] := by unfold push; simp
theorem windows_loop (x0 x1 : List Int) (w : Int) (hw : Wd w) (hx0 : ∀ x ∈ x0, (Lit.int .u16 x).wf = true) (hx1 : ∀ x ∈ x1, (Lit.int .u64 x).wf = true) (hn : x0.length ≤ 100) (d : Nat) :
    ∀ (i : Int) (k : Nat) (A H L : List S25) (now : Int), 0 ≤ i → i ≤ x0.length → ((x0.length : Int) - i).toNat = d → A.length = i.toNat → H.length ≤ i.toNat → L.length ≤ i.toNat → 0 ≤ now → now ≤ i * 65536 →
      (∀ a ∈ A, Ws a ∧ a.f0 ≤ now) → Win true w now A H → Win false w now A L → d * 200 + 200 ≤ k →
      wigwaglaw02_FiltWindows.l0 k x0 x1 w true A H L now i = some true := by
  induction d with
  | zero =>
    intro i k A H L now h0 h1 hd hA hH hL n0 n1 ha wH wL hk
    obtain ⟨k, rfl⟩ : ∃ m, k = m + 2 := ⟨k - 2, by omega⟩
    rw [wigwaglaw02_FiltWindows.l0, if_neg (by omega), wigwaglaw02_FiltWindows.j1, if_neg (by simp)]
  | succ d ih =>
    intro i k A H L now h0 h1 hd hA hH hL n0 n1 ha wH wL hk
    obtain ⟨k, rfl⟩ : ∃ m, k = m + 2 := ⟨k - 2, by omega⟩
    have hl : i < (x0.length : Int) := by omega
    rw [wigwaglaw02_FiltWindows.l0, if_pos hl]
    by_cases hl1 : i < (x1.length : Int)
    · have r0 := u16_of (hx0 _ (rd_in h0 hl))
      have r1 := wd_of (hx1 _ (rd_in h0 hl1))
      have e0 : IntKind.u64.wrap (rd x0 i) = rd x0 i := wrapu_id ⟨r0.1, by omega⟩
      have e1 : IntKind.u64.wrap (now + rd x0 i) = now + rd x0 i := wrapu_id ⟨by omega, by omega⟩
      rw [decide_eq_true hl1, wigwaglaw02_FiltWindows.j1, if_pos rfl, if_pos h0, if_pos hl, if_pos hl1, if_pos (by omega), e0, e1]
      generalize rd x0 i = p at r0
      generalize rd x1 i = v at r1
      have hS : Ws ⟨now + p, v⟩ := ⟨show Wd (now + p) from ⟨by omega, by omega⟩, r1⟩
      have wsH : ∀ x ∈ H, Ws x := fun x h => (ha x (wH.mem x h).1).1
      have wsL : ∀ x ∈ L, Ws x := fun x h => (ha x (wL.mem x h).1).1
      rw [pmax (s := ⟨now + p, v⟩) wsH (by omega) hw (show H.length + 1 ≤ k by omega), pmin (s := ⟨now + p, v⟩) wsL (by omega) hw (show L.length + 1 ≤ k by omega)]
      simp only [Option.bind_some]
      have hA' : ∀ a ∈ A ++ [(⟨now + p, v⟩ : S25)], Ws a ∧ a.f0 ≤ now + p := by
        intro a h
        rcases List.mem_append.mp h with q | q
        · have := ha a q; exact ⟨this.1, by omega⟩
        · rw [List.mem_singleton.mp q]; exact ⟨hS, Int.le_refl _⟩
      have sH : Win true w (now + p) (A ++ [(⟨now + p, v⟩ : S25)]) (push true w ⟨now + p, v⟩ H) := win_step (s := ⟨now + p, v⟩) wH hw.1 (by show now ≤ now + p; omega) (by show now + p < _; omega) (fun a h => by have := (ha a h).2; show a.f0 ≤ now + p; omega)
      have sL : Win false w (now + p) (A ++ [(⟨now + p, v⟩ : S25)]) (push false w ⟨now + p, v⟩ L) := win_step (s := ⟨now + p, v⟩) wL hw.1 (by show now ≤ now + p; omega) (by show now + p < _; omega) (fun a h => by have := (ha a h).2; show a.f0 ≤ now + p; omega)
      have lH := @push_len true w ⟨now + p, v⟩ H
      have lL := @push_len false w ⟨now + p, v⟩ L
      have hs0 : sadd (now + p) w ≥ now + p := sadd_le hw.1 (by omega)
      have bH := (win_best sH (push_ne _ _ _ _)).2.2 ⟨now + p, v⟩ (List.mem_append_right _ (List.mem_singleton.mpr rfl)) hs0
      have bL := (win_best sL (push_ne _ _ _ _)).2.2 ⟨now + p, v⟩ (List.mem_append_right _ (List.mem_singleton.mpr rfl)) hs0
      unfold vof at bH bL
      simp only [if_true, Bool.false_eq_true, if_false] at bH bL
      have lA : (A ++ [(⟨now + p, v⟩ : S25)]).length = i.toNat + 1 := by simp; omega
      refine scan (fun a h => (hA' a h).1) (by omega) hw sH sL (push_ne _ _ _ _) (push_ne _ _ _ _) (i.toNat + 1) 0 k v v (by omega) (by omega) bH (by omega) (by simp) ?_
      have eu : wrap64 (i + 1) = i + 1 := by unfold wrap64; omega
      rw [eu]
      exact ih (i + 1) _ _ _ _ (now + p) (by omega) (by omega) (by omega) (by omega) (by omega) (by omega) (by omega) (by omega) hA' sH sL (by omega)
    · rw [decide_eq_false hl1, wigwaglaw02_FiltWindows.j1, if_neg (by simp)]
theorem FiltWindows : wigwaglaw02_FiltWindows.Pure := by
  intro x0 x1 w hl0 _ hx0 hl1 _ hx1 hw
  refine ⟨30000, ?_⟩
  unfold wigwaglaw02_FiltWindows.f
  rw [awake_eq 30000 (by omega)]
  simp only [Option.bind_some]
  by_cases hn : (x0.length : Int) > 100
  · rw [if_pos hn]
  · rw [if_neg hn]
    have w0 : ∀ g, Win g w 0 [] [] := fun g => ⟨fun h hh => by simp at hh, fun a ha => by simp at ha, List.Pairwise.nil⟩
    exact windows_loop x0 x1 w (wd_of hw) hx0 hx1 (by omega) x0.length 0 30000 [] [] [] 0 (by omega) (by omega) (by omega) (by simp) (by simp) (by simp) (by omega) (by omega) (fun a ha => by simp at ha) (w0 _) (w0 _) (by omega)
end Go.Proofs.Ytmnpgcpejfkaaaa.Pure
