/- A part and the rest are all: as many, as much, and in their order. Fifty of at most 2^32 do not reach the greatest sum. -/
import Derived.Test.YtfgmikhlplbmeaaXa
import Derived.Test.YtfgmikhlplbmeaaStmLedgerAll
namespace Go.Proofs.Ytfgmikhlplbmeaa.Pure
open Go.RowKit Go.Proofs.Ytfgmikhlplbmeaa.P Go.Proofs.YtfgmikhlplbmeaaW.PrintWords Go.Proofs.YtfgmikhlplbmeaaW.PrintLast
set_option linter.unusedSectionVars false
set_option linter.unusedVariables false
def lt_ (a b : S37) : Prop := a.f0 < b.f0
instance (a b : S37) : Decidable (lt_ a b) := inferInstanceAs (Decidable (a.f0 < b.f0))
theorem pair_cons {x y : S37} {t : List S37} : (x :: y :: t).Pairwise lt_ ↔ lt_ x y ∧ (y :: t).Pairwise lt_ := by
  constructor
  · intro h
    obtain ⟨h1, h2⟩ := List.pairwise_cons.mp h
    exact ⟨h1 y (List.mem_cons_self ..), h2⟩
  · intro ⟨h1, h2⟩
    refine List.pairwise_cons.mpr ⟨?_, h2⟩
    intro z hz
    rcases List.mem_cons.mp hz with q | q
    · rw [q]; exact h1
    · have := (List.pairwise_cons.mp h2).1 z q
      unfold lt_ at *
      omega
theorem check_loop (l : List S37) (hn : l.length < 1000000) (d : Nat) : ∀ (j k : Nat), j + 1 + d = l.length → d + 1 ≤ k → ledger_Check.l0 k l ((j + 1 : Nat) : Int) = some (decide ((l.drop j).Pairwise lt_)) := by
  induction d with
  | zero =>
    intro j k hj hk
    obtain ⟨k, rfl⟩ : ∃ m, k = m + 1 := ⟨k - 1, by omega⟩
    have hjl : j < l.length := by omega
    rw [ledger_Check.l0, if_neg (by omega), List.drop_eq_getElem_cons hjl, List.drop_eq_nil_of_le (by omega)]
    simp
  | succ d ih =>
    intro j k hj hk
    obtain ⟨k, rfl⟩ : ∃ m, k = m + 1 := ⟨k - 1, by omega⟩
    have hjl : j + 1 < l.length := by omega
    have hjl0 : j < l.length := by omega
    have e := ih (j + 1) k (by omega) (by omega)
    rw [List.drop_eq_getElem_cons hjl] at e
    rw [ledger_Check.l0, if_pos (by omega), if_pos (by omega), dn hjl0 hn, if_pos (by omega), if_pos (by omega), rd_at hjl, rd_at hjl0, up hjl hn, e, List.drop_eq_getElem_cons hjl0, List.drop_eq_getElem_cons hjl]
    by_cases h : l[j + 1].f0 ≤ l[j].f0
    · rw [if_pos h]
      congr 1
      symm
      apply decide_eq_false
      intro q
      have := (pair_cons.mp q).1
      unfold lt_ at this
      omega
    · rw [if_neg h]
      congr 1
      apply decide_eq_decide.mpr
      rw [pair_cons]
      constructor
      · intro q; exact ⟨by unfold lt_; omega, q⟩
      · intro q; exact q.2
theorem check_eq {l : List S37} (hn : l.length < 1000000) {k : Nat} (hk : l.length + 1 ≤ k) : ledger_Check.f k l = some (decide (l.Pairwise lt_)) := by
  unfold ledger_Check.f
  cases l with
  | nil =>
    obtain ⟨k, rfl⟩ : ∃ m, k = m + 1 := ⟨k - 1, by simp at hk; omega⟩
    rw [ledger_Check.l0, if_neg (by simp)]
    simp
  | cons x t => exact check_loop (x :: t) hn t.length 0 k (by simp; omega) (by simp at hk; omega)
def flew (s : Int) (l : List S37) : Int := l.foldl (fun a x => sadd a x.f2) s
theorem flew_wd {l : List S37} (hl : ∀ x ∈ l, Ws x) : ∀ {s : Int}, Wd s → Wd (flew s l) := by
  induction l with
  | nil => intro s hs; exact hs
  | cons x t ih =>
    intro s hs
    exact ih (fun y hy => hl y (List.mem_cons_of_mem _ hy)) (sadd_wd hs (hl x (List.mem_cons_self ..)).z)
section
variable {l : List S37} (hl : ∀ x ∈ l, Ws x) (hn : l.length < 1000000)
include hl hn
theorem flight_loop (d : Nat) : ∀ (j : Nat) (s : Int) (k : Nat), Wd s → j + d = l.length → d + 1 ≤ k → ledger_Flight.l0 k s l (l.length : Int) (j : Int) = some (flew s (l.drop j)) := by
  induction d with
  | zero =>
    intro j s k hs hj hk
    obtain ⟨k, rfl⟩ : ∃ m, k = m + 1 := ⟨k - 1, by omega⟩
    rw [ledger_Flight.l0, if_neg (by omega), List.drop_eq_nil_of_le (by omega)]
    rfl
  | succ d ih =>
    intro j s k hs hj hk
    obtain ⟨k, rfl⟩ : ∃ m, k = m + 1 := ⟨k - 1, by omega⟩
    have hjl : j < l.length := by omega
    have hx := hl _ (List.getElem_mem hjl)
    rw [ledger_Flight.l0, if_pos (by omega), if_pos (by omega), if_pos (by omega), rd_at hjl, add_eq hs hx.z, up hjl hn, List.drop_eq_getElem_cons hjl]
    simp only [Option.bind_some]
    exact ih (j + 1) _ k (sadd_wd hs hx.z) (by omega) (by omega)
theorem flight_eq {k : Nat} (hk : l.length + 1 ≤ k) : ledger_Flight.f k l = some (flew 0 l) := by
  unfold ledger_Flight.f
  exact flight_loop hl hn l.length 0 0 k ⟨by omega, by omega⟩ (by omega) (by omega)
theorem rflight_loop (d : Nat) : ∀ (j : Nat) (s : Int) (k : Nat), Wd s → j + d = l.length → d + 1 ≤ k → wigwagref09_Flight.l0 k l s (j : Int) = some (flew s (l.drop j)) := by
  induction d with
  | zero =>
    intro j s k hs hj hk
    obtain ⟨k, rfl⟩ : ∃ m, k = m + 1 := ⟨k - 1, by omega⟩
    rw [wigwagref09_Flight.l0, if_neg (by omega), List.drop_eq_nil_of_le (by omega)]
    rfl
  | succ d ih =>
    intro j s k hs hj hk
    obtain ⟨k, rfl⟩ : ∃ m, k = m + 1 := ⟨k - 1, by omega⟩
    have hjl : j < l.length := by omega
    have hx := hl _ (List.getElem_mem hjl)
    rw [wigwagref09_Flight.l0, if_pos (by omega), if_pos (by omega), rd_at hjl, radd_eq hs hx.z, up hjl hn, List.drop_eq_getElem_cons hjl]
    simp only [Option.bind_some]
    exact ih (j + 1) _ k (sadd_wd hs hx.z) (by omega) (by omega)
theorem rflight_eq {k : Nat} (hk : l.length + 1 ≤ k) : wigwagref09_Flight.f k l = some (flew 0 l) := by
  unfold wigwagref09_Flight.f
  exact rflight_loop hl hn l.length 0 0 k ⟨by omega, by omega⟩ (by omega) (by omega)
end
def tot (l : List S37) : Int := (l.map (fun x => x.f2)).sum
theorem tot_cons (x : S37) (t : List S37) : tot (x :: t) = x.f2 + tot t := by unfold tot; simp
theorem tot_bound {l : List S37} (h : ∀ x ∈ l, 0 ≤ x.f2 ∧ x.f2 ≤ 4294967296) : 0 ≤ tot l ∧ tot l ≤ l.length * 4294967296 := by
  induction l with
  | nil => simp [tot]
  | cons x t ih =>
    have h1 := h x (List.mem_cons_self ..)
    have h2 := ih (fun y hy => h y (List.mem_cons_of_mem _ hy))
    rw [tot_cons, List.length_cons]
    omega
theorem flew_tot {l : List S37} (h : ∀ x ∈ l, 0 ≤ x.f2 ∧ x.f2 ≤ 4294967296) : ∀ s : Int, 0 ≤ s → s + tot l < 18446744073709551616 → flew s l = s + tot l := by
  induction l with
  | nil => intro s _ _; simp [flew, tot]
  | cons x t ih =>
    intro s h0 h1
    have hx := h x (List.mem_cons_self ..)
    have ht := tot_bound (fun y hy => h y (List.mem_cons_of_mem _ hy))
    rw [tot_cons] at h1 ⊢
    have e : sadd s x.f2 = s + x.f2 := by unfold sadd; rw [if_pos (by omega)]
    show flew (sadd s x.f2) t = _
    rw [e, ih (fun y hy => h y (List.mem_cons_of_mem _ hy)) (s + x.f2) (by omega) (by omega)]
    omega
theorem split_len (p : S37 → Bool) (l : List S37) : (l.filter p).length + (l.filter (fun x => !p x)).length = l.length := by
  induction l with
  | nil => rfl
  | cons x t ih =>
    by_cases h : p x = true
    · rw [List.filter_cons_of_pos h, List.filter_cons_of_neg (by simp [h])]; simp only [List.length_cons]; omega
    · rw [List.filter_cons_of_neg h, List.filter_cons_of_pos (by simp [h])]; simp only [List.length_cons]; omega
theorem split_tot (p : S37 → Bool) (l : List S37) : tot (l.filter p) + tot (l.filter (fun x => !p x)) = tot l := by
  induction l with
  | nil => rfl
  | cons x t ih =>
    by_cases h : p x = true
    · rw [List.filter_cons_of_pos h, List.filter_cons_of_neg (by simp [h]), tot_cons, tot_cons]; omega
    · rw [List.filter_cons_of_neg h, List.filter_cons_of_pos (by simp [h]), tot_cons, tot_cons]; omega
section
variable {l a b x y : List S37} (hl : ∀ z ∈ l, Ws z) (ha : ∀ z ∈ a, Ws z) (hb : ∀ z ∈ b, Ws z) (hx : ∀ z ∈ x, Ws z) (hy : ∀ z ∈ y, Ws z) (nl : l.length ≤ 50)
  (e1 : a.length + b.length = l.length) (e2 : x.length + y.length = l.length) (f1 : flew 0 a + flew 0 b = flew 0 l) (f2 : flew 0 x + flew 0 y = flew 0 l)
  (r1 : l.Pairwise lt_ → a.Pairwise lt_) (r2 : l.Pairwise lt_ → b.Pairwise lt_) (r3 : l.Pairwise lt_ → x.Pairwise lt_) (r4 : l.Pairwise lt_ → y.Pairwise lt_)
include hl ha hb hx hy nl e1 e2 f1 f2 r1 r2 r3 r4
set_option maxHeartbeats 2000000 in
theorem all_end {k : Nat} (hk : 60 ≤ k) : wigwaglaw09_LedgerAll.j3 k l true a b x y true true = some true := by
  obtain ⟨k, rfl⟩ : ∃ m, k = m + 1 := ⟨k - 1, by omega⟩
  rw [wigwaglaw09_LedgerAll.j3, check_eq (by omega) (by omega), check_eq (show a.length < 1000000 by omega) (by omega), check_eq (show b.length < 1000000 by omega) (by omega), check_eq (show x.length < 1000000 by omega) (by omega), check_eq (show y.length < 1000000 by omega) (by omega)]
  simp only [Option.bind_some]
  by_cases h : l.Pairwise lt_
  · rw [decide_eq_true h, decide_eq_true (r1 h), decide_eq_true (r2 h), decide_eq_true (r3 h), decide_eq_true (r4 h)]
    simp
  · rw [decide_eq_false h]
    simp
set_option maxHeartbeats 2000000 in
theorem all_mid {k : Nat} (hk : 62 ≤ k) : wigwaglaw09_LedgerAll.j2 k l true a b x y (flew 0 l) true = some true := by
  obtain ⟨k, rfl⟩ : ∃ m, k = m + 1 := ⟨k - 1, by omega⟩
  have n1 : x.length < 1000000 := by omega
  have n2 : y.length < 1000000 := by omega
  have n3 : x.length + 1 ≤ k := by omega
  have n4 : y.length + 1 ≤ k := by omega
  have n5 : 60 ≤ k := by omega
  have n6 : x.length ≤ 50 := by omega
  have hw : Wd (flew 0 l) := flew_wd hl ⟨by decide, by decide⟩
  have w : wrap64 ((x.length : Int) + (y.length : Int)) = (l.length : Int) := by clear f1 f2 hw; unfold wrap64; omega
  have c1 := flight_eq hx n1 n3
  have c2 := flight_eq hy n2 n4
  rw [wigwaglaw09_LedgerAll.j2, w, if_pos rfl, c1, c2]
  simp only [Option.bind_some]
  rw [f2, wrapu_id hw, beq_self_eq_true]
  exact all_end hl ha hb hx hy nl e1 e2 f1 f2 r1 r2 r3 r4 n5
end
theorem two_flew {l : List S37} (hz : ∀ z ∈ l, 0 ≤ z.f2 ∧ z.f2 ≤ 4294967296) (nl : l.length ≤ 50) (p : S37 → Bool) : flew 0 (l.filter p) + flew 0 (l.filter (fun x => !p x)) = flew 0 l := by
  have hf : ∀ (p : S37 → Bool), ∀ z ∈ l.filter p, 0 ≤ z.f2 ∧ z.f2 ≤ 4294967296 := fun p z h => hz z (List.mem_filter.mp h).1
  have bd := tot_bound hz
  have sp := split_tot p l
  have b1 := tot_bound (hf p)
  have b2 := tot_bound (hf (fun x => !p x))
  have u0 : tot l < 18446744073709551616 := by omega
  have u1 : 0 + tot l < 18446744073709551616 := by omega
  have u2 : 0 + tot (l.filter p) < 18446744073709551616 := by omega
  have u3 : 0 + tot (l.filter (fun x => !p x)) < 18446744073709551616 := by omega
  rw [flew_tot hz 0 (Int.le_refl _) u1, flew_tot (hf p) 0 (Int.le_refl _) u2, flew_tot (hf (fun x => !p x)) 0 (Int.le_refl _) u3, ← sp]
  omega
theorem flen {l : List S37} (nl : l.length ≤ 50) (p : S37 → Bool) : (l.filter p).length ≤ 50 := Nat.le_trans (List.length_filter_le p l) nl
theorem wlen {l : List S37} (nl : l.length ≤ 50) (p : S37 → Bool) : wrap64 (((l.filter p).length : Int) + ((l.filter (fun x => !p x)).length : Int)) = (l.length : Int) := by
  have s1 := split_len p l
  generalize (l.filter p).length = a at *
  generalize (l.filter (fun x => !p x)).length = b at *
  generalize l.length = c at *
  unfold wrap64
  omega
theorem small {a : Nat} (h : a ≤ 50) : a < 1000000 := by omega
theorem small1 {a k : Nat} (h : a ≤ 50) (hk : 199 ≤ k) : a + 1 ≤ k := by omega
theorem small2 {a k : Nat} (h : a ≤ 50) (hk : 199 ≤ k) : a + 2 ≤ k := by omega
theorem small3 {a b k : Nat} (h : a ≤ 50) (hb : b ≤ 50) (hk : 199 ≤ k) : a + b + 2 ≤ k := by omega
theorem at_end {l : List S37} : ¬ (l.length : Int) < (l.length : Int) := by omega
section
variable {l : List S37} {s : List S43} {nx now late : Int} (hl : ∀ z ∈ l, Ws z) (nl : l.length ≤ 50) (ns : s.length ≤ 50) (hla : Wd late) (hz : ∀ z ∈ l, 0 ≤ z.f2 ∧ z.f2 ≤ 4294967296)
include hl nl ns hla hz
set_option maxHeartbeats 2000000 in
theorem all_zero {k : Nat} (hk : 199 ≤ k) : wigwaglaw09_LedgerAll.l0 (k + 1) l s nx now late true (l.length : Int) = some true := by
  obtain ⟨z, L⟩ : ∃ z, ledger_Lost.f k l nx now late = some (l.filter (gone nx now late), l.filter (fun x => !gone nx now late x), z) := ⟨_, lost_eq hl (small nl) hla (small2 nl hk)⟩
  have T := take_eq (s := s) hl (small nl) (small ns) (small3 nl ns hk)
  have F := flight_eq hl (small nl) (small1 nl hk)
  have f0 := flen nl (taken s)
  have f1 := flen nl (fun x => !taken s x)
  have F0 := flight_eq (filter_ws hl (taken s)) (small f0) (small1 f0 hk)
  have F1 := flight_eq (filter_ws hl (fun x => !taken s x)) (small f1) (small1 f1 hk)
  have w1 := wlen nl (taken s)
  have s1 := split_len (taken s) l
  have s2 := split_len (gone nx now late) l
  have t1 := two_flew hz nl (taken s)
  have t2 := two_flew hz nl (gone nx now late)
  have wd := flew_wd hl (s := 0) ⟨by decide, by decide⟩
  have u1 := filter_ws hl (taken s)
  have u2 := filter_ws hl (fun x => !taken s x)
  have u3 := filter_ws hl (gone nx now late)
  have u4 := filter_ws hl (fun x => !gone nx now late x)
  have r1 : l.Pairwise lt_ → (l.filter (taken s)).Pairwise lt_ := fun h => h.sublist List.filter_sublist
  have r2 : l.Pairwise lt_ → (l.filter (fun x => !taken s x)).Pairwise lt_ := fun h => h.sublist List.filter_sublist
  have r3 : l.Pairwise lt_ → (l.filter (gone nx now late)).Pairwise lt_ := fun h => h.sublist List.filter_sublist
  have r4 : l.Pairwise lt_ → (l.filter (fun x => !gone nx now late x)).Pairwise lt_ := fun h => h.sublist List.filter_sublist
  generalize l.filter (taken s) = a at *
  generalize l.filter (fun x => !taken s x) = b at *
  generalize l.filter (gone nx now late) = x at *
  generalize l.filter (fun x => !gone nx now late x) = y at *
  have hk2 : 62 ≤ k := Nat.le_trans (by decide) hk
  rw [wigwaglaw09_LedgerAll.l0, if_neg at_end, T, Option.bind_some, L, Option.bind_some, F, Option.bind_some]
  show (if wrap64 ((a.length : Int) + (b.length : Int)) = (l.length : Int) then _ else _) = _
  rw [w1, if_pos rfl]
  show ((ledger_Flight.f k a).bind fun t281 => ((ledger_Flight.f k b).bind fun t282 => (wigwaglaw09_LedgerAll.j2 k l true a b x y (flew 0 l) ((IntKind.u64.wrap (t281 + t282)) == (flew 0 l))))) = _
  rw [F0, Option.bind_some, F1, Option.bind_some, t1, wrapu_id wd, beq_self_eq_true]
  exact all_mid hl u1 u2 u3 u4 nl s1 s2 t1 t2 r1 r2 r3 r4 hk2
end
set_option maxHeartbeats 2000000 in
theorem all_loop {l : List S37} {s : List S43} {nx now late : Int} (hl : ∀ z ∈ l, Ws z) (nl : l.length ≤ 50) (ns : s.length ≤ 50) (hla : Wd late) (d : Nat) :
    ∀ (j k : Nat), j + d = l.length → (∀ z ∈ l.take j, z.f2 ≤ 4294967296) → d + 200 ≤ k → wigwaglaw09_LedgerAll.l0 k l s nx now late true (j : Int) = some true := by
  induction d with
  | zero =>
    intro j k hj ht hk
    obtain ⟨k, rfl⟩ : ∃ m, k = m + 1 := ⟨k - 1, by omega⟩
    rw [List.take_of_length_le (by omega)] at ht
    have hz : ∀ z ∈ l, 0 ≤ z.f2 ∧ z.f2 ≤ 4294967296 := fun z h => ⟨(hl z h).z.1, ht z h⟩
    have e : j = l.length := by omega
    rw [e]
    exact all_zero hl nl ns hla hz (by omega)
  | succ d ih =>
    intro j k hj ht hk
    obtain ⟨k, rfl⟩ : ∃ m, k = m + 1 := ⟨k - 1, by omega⟩
    have hjl : j < l.length := by omega
    rw [wigwaglaw09_LedgerAll.l0, if_pos (by omega), if_pos (by omega), rd_at hjl]
    by_cases h : l[j].f2 > 4294967296
    · rw [if_pos h]
    · rw [if_neg h, up hjl (by omega)]
      refine ih (j + 1) k (by omega) ?_ (by omega)
      intro z hz
      rw [List.take_succ_eq_append_getElem hjl] at hz
      rcases List.mem_append.mp hz with q | q
      · exact ht z q
      · rw [List.mem_singleton.mp q]; omega
theorem LedgerAll : wigwaglaw09_LedgerAll.Pure := by
  intro l s nx now late hl hx hs hy hnx hnow hlate
  have hL : ∀ x ∈ l, Ws x := fun x h => ⟨wd_of (hx x h).1, wd_of (hx x h).2.1, wd_of (hx x h).2.2.1⟩
  refine ⟨1001, ?_⟩
  unfold wigwaglaw09_LedgerAll.f
  rw [awake_eq 1001 (by omega), few_eq]
  simp only [Option.bind_some]
  by_cases hn : (l.length : Int) ≤ 50
  · rw [if_pos (by simpa using hn)]
    by_cases hm : (s.length : Int) > 50
    · rw [decide_eq_true hm, wigwaglaw09_LedgerAll.j0, if_pos rfl]
    · rw [decide_eq_false hm, wigwaglaw09_LedgerAll.j0, if_neg (by simp)]
      exact all_loop hL (by omega) (by omega) (wd_of hlate) l.length 0 1000 (by omega) (by simp) (by omega)
  · rw [if_neg (by simpa using hn), wigwaglaw09_LedgerAll.j0, if_pos rfl]
end Go.Proofs.Ytfgmikhlplbmeaa.Pure
