/- Layer 9: taking and losing as filters of the list; the reference's loops say the same. -/
import Derived.Test.YtfgmikhlplbmeaaPx10
import Derived.Test.YtfgmikhlplbmeaaPx11
import Derived.Test.YtfgmikhlplbmeaaPx12
import Derived.Test.YtfgmikhlplbmeaaPx13
import Derived.Test.YtfgmikhlplbmeaaPx16
import Derived.Test.YtfgmikhlplbmeaaPx19
import Derived.Test.YtfgmikhlplbmeaaPx20
import Derived.Test.YtfgmikhlplbmeaaPx21
import Derived.Test.YtfgmikhlplbmeaaPx24
import Derived.Test.YtfgmikhlplbmeaaPx25
import Derived.Test.YtfgmikhlplbmeaaPx26
import Derived.Test.YtfgmikhlplbmeaaPx3
import Derived.Test.YtfgmikhlplbmeaaPx4
import Derived.Test.YtfgmikhlplbmeaaPx5
import Derived.Test.YtfgmikhlplbmeaaPx6
import Derived.Test.YtfgmikhlplbmeaaPx7
import Derived.Test.YtfgmikhlplbmeaaPx8
import Derived.Test.YtfgmikhlplbmeaaPx9
namespace Go.Proofs.Ytfgmikhlplbmeaa.Pure
open Go.RowKit Go.Proofs.Ytfgmikhlplbmeaa.P Go.Proofs.YtfgmikhlplbmeaaW.PrintWords Go.Proofs.YtfgmikhlplbmeaaW.PrintLast Go.Proofs.YtfgmikhlplbmeaaW.PrintMore
set_option linter.unusedSectionVars false
set_option linter.unusedVariables false
/-- A word: a number of 64 bits without a sign. -/
def Wd (x : Int) : Prop := 0 ≤ x ∧ x < 18446744073709551616
theorem wd_of {x : Int} (h : (Lit.int .u64 x).wf = true) : Wd x := by
  simp [Lit.wf, IntKind.min, IntKind.max, IntKind.signed, IntKind.bits] at h
  exact ⟨by omega, by omega⟩
def sadd (a b : Int) : Int := if a + b < 18446744073709551616 then a + b else 18446744073709551615
def ssub (a b : Int) : Int := if a < b then 0 else a - b
theorem wrapu (x : Int) : IntKind.u64.wrap x = x % 18446744073709551616 := IntKind.wrap_u64 x
theorem wrapu_id {x : Int} (h : Wd x) : IntKind.u64.wrap x = x := by rw [wrapu]; obtain ⟨_, _⟩ := h; omega
theorem sadd_wd {a b : Int} (ha : Wd a) (hb : Wd b) : Wd (sadd a b) := by
  obtain ⟨_, _⟩ := ha; obtain ⟨_, _⟩ := hb; unfold sadd Wd; split <;> omega
theorem ssub_wd {a b : Int} (ha : Wd a) (hb : Wd b) : Wd (ssub a b) := by
  obtain ⟨_, _⟩ := ha; obtain ⟨_, _⟩ := hb; unfold ssub Wd; split <;> omega
theorem tdiv_pos {x : Int} (h : 0 ≤ x) (k : Nat) : Int.tdiv x (k : Int) = x / (k : Int) := Int.tdiv_eq_ediv_of_nonneg h
theorem mx_eq (a b : Int) : mx a b = max a b := by unfold mx; omega
theorem mn_eq (a b : Int) : mn a b = min a b := by unfold mn; omega
theorem add_eq {a b : Int} (ha : Wd a) (hb : Wd b) : fix_Add.f a b = some (sadd a b) := by
  unfold fix_Add.f sadd
  rw [if_pos ha.1, if_pos hb.1]
  split <;> rfl
theorem radd_eq {a b : Int} (ha : Wd a) (hb : Wd b) : wigwagref01_Add.f a b = some (sadd a b) := by
  obtain ⟨_, _⟩ := ha; obtain ⟨_, _⟩ := hb
  unfold wigwagref01_Add.f sadd
  rw [wrapu, wrapu]
  (repeat' split) <;> first | rfl | (congr 1; omega) | omega
structure Ws (x : S37) : Prop where
  n : Wd x.f0
  a : Wd x.f1
  z : Wd x.f2
def inS (n : Int) (x : S43) : Bool := decide (x.f0 ≤ n) && decide (n < x.f1)
def has (s : List S43) (n : Int) : Bool := s.any (inS n)
def taken (s : List S43) (x : S37) : Bool := has s x.f0
def behind (nx : Int) (x : S37) : Bool := decide (sadd x.f0 1 < nx)
def gone (nx now late : Int) (x : S37) : Bool := behind nx x && (decide (sadd x.f0 4 ≤ nx) || decide (sadd x.f1 late ≤ now))
/-- The least time of these, and of one that was found. -/
def wh (late : Int) : List S37 → Int → Bool → Int
  | [], w, _ => w
  | x :: t, w, found => wh late t (if found = false ∨ sadd x.f1 late < w then sadd x.f1 late else w) true
theorem one_wd : Wd 1 := ⟨by omega, by omega⟩
theorem four_wd : Wd 4 := ⟨by omega, by omega⟩
theorem rd_at {l : List S37} {j : Nat} (h : j < l.length) : rd_T37 l (j : Int) = l[j] := by
  unfold rd_T37
  rw [Int.toNat_natCast, List.getD_eq_getElem?_getD, List.getElem?_eq_getElem h]
  rfl
theorem rd_atS {l : List S43} {j : Nat} (h : j < l.length) : rd_T43 l (j : Int) = l[j] := by
  unfold rd_T43
  rw [Int.toNat_natCast, List.getD_eq_getElem?_getD, List.getElem?_eq_getElem h]
  rfl
theorem up {j n : Nat} (h : j < n) (hn : n < 1000000) : wrap64 ((j : Int) + 1) = ((j + 1 : Nat) : Int) := by unfold wrap64; omega
theorem dn {j n : Nat} (h : j < n) (hn : n < 1000000) : wrap64 (((j + 1 : Nat) : Int) - 1) = (j : Int) := by unfold wrap64; omega
section
variable {s : List S43} (hs : s.length < 1000000) (n : Int)
include hs
theorem index_eq (d : Nat) : ∀ (j k : Nat), j + d = s.length → d + 1 ≤ k → ∃ r, slices_IndexFunc_32.l0 k s (s.length : Int) (j : Int) n = some r ∧ decide (r ≥ 0) = (s.drop j).any (inS n) := by
  induction d with
  | zero =>
    intro j k hj hk
    obtain ⟨k, rfl⟩ : ∃ m, k = m + 1 := ⟨k - 1, by omega⟩
    rw [slices_IndexFunc_32.l0, if_neg (by omega), List.drop_eq_nil_of_le (by omega)]
    exact ⟨_, rfl, by simp⟩
  | succ d ih =>
    intro j k hj hk
    obtain ⟨k, rfl⟩ : ∃ m, k = m + 1 := ⟨k - 1, by omega⟩
    have hjl : j < s.length := by omega
    have e : span_Has_1.f (s[j]).f0 (s[j]).f1 n = some (inS n s[j]) := by
      unfold span_Has_1.f inS
      by_cases h : s[j].f0 ≤ n
      · rw [if_pos h, decide_eq_true h, Bool.true_and]
      · rw [if_neg h, decide_eq_false h, Bool.false_and]
    rw [slices_IndexFunc_32.l0, if_pos (by omega), if_pos (by omega), if_pos (by omega), rd_atS hjl, e, List.drop_eq_getElem_cons hjl, List.any_cons, up hjl hs]
    simp only [Option.bind_some]
    by_cases hq : inS n s[j] = true
    · rw [if_pos hq]
      exact ⟨_, rfl, by rw [hq, Bool.true_or]; simp⟩
    · rw [if_neg hq]
      obtain ⟨r, h1, h2⟩ := ih (j + 1) k (by omega) (by omega)
      exact ⟨r, h1, by rw [h2, Bool.eq_false_iff.mpr hq, Bool.false_or]⟩
theorem has_eq {k : Nat} (hk : s.length + 1 ≤ k) : span_Has.f k s n = some (has s n) := by
  unfold span_Has.f slices_ContainsFunc_32.f slices_IndexFunc_32.f
  obtain ⟨r, h1, h2⟩ := index_eq hs n s.length 0 k (by omega) (by omega)
  rw [show (0 : Int) = ((0 : Nat) : Int) from rfl, h1]
  simp only [Option.bind_some]
  show some (decide (r ≥ 0)) = _
  rw [h2]
  rfl
theorem rhas_loop (d : Nat) : ∀ (j k : Nat), j + d = s.length → d + 1 ≤ k → wigwagref07_Has.l0 k s n (j : Int) = some ((s.drop j).any (inS n)) := by
  induction d with
  | zero =>
    intro j k hj hk
    obtain ⟨k, rfl⟩ : ∃ m, k = m + 1 := ⟨k - 1, by omega⟩
    rw [wigwagref07_Has.l0, if_neg (by omega), List.drop_eq_nil_of_le (by omega)]
    rfl
  | succ d ih =>
    intro j k hj hk
    obtain ⟨k, rfl⟩ : ∃ m, k = m + 1 := ⟨k - 1, by omega⟩
    have hjl : j < s.length := by omega
    rw [wigwagref07_Has.l0, if_pos (by omega), if_pos (by omega), rd_atS hjl, List.drop_eq_getElem_cons hjl, List.any_cons, up hjl hs, ih (j + 1) k (by omega) (by omega)]
    unfold inS
    by_cases h1 : s[j].f0 ≤ n
    · rw [if_pos h1]
      by_cases h2 : n < s[j].f1
      · rw [if_pos h2, decide_eq_true h1, decide_eq_true h2]; rfl
      · rw [if_neg h2, decide_eq_false h2, Bool.and_false, Bool.false_or]
    · rw [if_neg h1, decide_eq_false h1, Bool.false_and, Bool.false_or]
theorem rhas_eq {k : Nat} (hk : s.length + 1 ≤ k) : wigwagref07_Has.f k s n = some (has s n) := by
  unfold wigwagref07_Has.f
  exact rhas_loop hs n s.length 0 k (by omega) (by omega)
end
theorem lost1_eq {x : S37} (hx : Ws x) (nx : Int) : ledger_Lost_1.f x.f0 x.f1 x.f2 x.f3 nx = some (behind nx x) := by
  unfold ledger_Lost_1.f
  rw [add_eq hx.n one_wd]
  rfl
theorem lost2_eq {x : S37} (hx : Ws x) {nx now late : Int} (hl : Wd late) : ledger_Lost_2.f x.f0 x.f1 x.f2 x.f3 nx late now = some (gone nx now late x) := by
  unfold ledger_Lost_2.f gone
  rw [lost1_eq hx, add_eq hx.n four_wd, add_eq hx.a hl]
  simp only [Option.bind_some]
  by_cases h : behind nx x = true
  · rw [if_pos h, h, Bool.true_and]
    by_cases h2 : sadd x.f0 4 ≤ nx
    · rw [if_pos h2, decide_eq_true h2, Bool.true_or]
    · rw [if_neg h2, decide_eq_false h2, Bool.false_or]
  · rw [if_neg h, Bool.eq_false_iff.mpr h, Bool.false_and]
theorem take1_eq {s : List S43} (hs : s.length < 1000000) (x : S37) {k : Nat} (hk : s.length + 1 ≤ k) : ledger_Take_1.f k x.f0 x.f1 x.f2 x.f3 s = some (taken s x) := by
  unfold ledger_Take_1.f
  rw [has_eq hs x.f0 hk]
  rfl
theorem rtaken_eq {s : List S43} (hs : s.length < 1000000) (x : S37) {k : Nat} (hk : s.length + 1 ≤ k) : wigwagref07_Has.f k s x.f0 = some (taken s x) := rhas_eq hs x.f0 hk
section
variable {l : List S37} (hl : ∀ x ∈ l, Ws x) (hn : l.length < 1000000) {s : List S43} (hs : s.length < 1000000)
include hl hn hs
theorem parted_take (d : Nat) : ∀ (j : Nat) (a b : List S37) (k : Nat), j + d = l.length → a.length + d < 4398046511104 → b.length + d < 4398046511104 → d + 1 + (s.length + 1) ≤ k →
    ledger_parted_25.l0 k a b l (l.length : Int) (j : Int) s = some (a ++ (l.drop j).filter (taken s), b ++ (l.drop j).filter (fun x => !(taken s) x)) := by
  induction d with
  | zero =>
    intro j a b k hj ha hb hk
    obtain ⟨k, rfl⟩ : ∃ m, k = m + 1 := ⟨k - 1, by omega⟩
    rw [ledger_parted_25.l0, if_neg (by omega), List.drop_eq_nil_of_le (by omega)]
    simp
  | succ d ih =>
    intro j a b k hj ha hb hk
    obtain ⟨k, rfl⟩ : ∃ m, k = m + 1 := ⟨k - 1, by omega⟩
    have hjl : j < l.length := by omega
    have hx := hl _ (List.getElem_mem hjl)
    rw [ledger_parted_25.l0, if_pos (by omega), if_pos (by omega), if_pos (by omega), rd_at hjl, take1_eq hs _ (by omega), List.drop_eq_getElem_cons hjl, up hjl hn]
    simp only [Option.bind_some]
    by_cases hq : (taken s) l[j] = true
    · have i1 := ih (j + 1) (a ++ [(⟨l[j].f0, l[j].f1, l[j].f2, l[j].f3⟩ : S37)]) b k (by omega) (by simp; omega) (by omega) (by omega)
      rw [if_pos hq, if_pos (by omega), i1, List.filter_cons_of_pos hq, List.filter_cons_of_neg (by simp [hq])]
      simp
    · have i2 := ih (j + 1) a (b ++ [(⟨l[j].f0, l[j].f1, l[j].f2, l[j].f3⟩ : S37)]) k (by omega) (by omega) (by simp; omega) (by omega)
      rw [if_neg hq, if_pos (by omega), i2, List.filter_cons_of_neg hq, List.filter_cons_of_pos (by simp [hq])]
      simp
end
section
variable {l : List S37} (hl : ∀ x ∈ l, Ws x) (hn : l.length < 1000000) {nx now late : Int} (hla : Wd late)
include hl hn hla
theorem parted_lost (d : Nat) : ∀ (j : Nat) (a b : List S37) (k : Nat), j + d = l.length → a.length + d < 4398046511104 → b.length + d < 4398046511104 → d + 1 + 0 ≤ k →
    ledger_parted_30.l0 k a b l (l.length : Int) (j : Int) nx late now = some (a ++ (l.drop j).filter (gone nx now late), b ++ (l.drop j).filter (fun x => !(gone nx now late) x)) := by
  induction d with
  | zero =>
    intro j a b k hj ha hb hk
    obtain ⟨k, rfl⟩ : ∃ m, k = m + 1 := ⟨k - 1, by omega⟩
    rw [ledger_parted_30.l0, if_neg (by omega), List.drop_eq_nil_of_le (by omega)]
    simp
  | succ d ih =>
    intro j a b k hj ha hb hk
    obtain ⟨k, rfl⟩ : ∃ m, k = m + 1 := ⟨k - 1, by omega⟩
    have hjl : j < l.length := by omega
    have hx := hl _ (List.getElem_mem hjl)
    rw [ledger_parted_30.l0, if_pos (by omega), if_pos (by omega), if_pos (by omega), rd_at hjl, lost2_eq hx hla, List.drop_eq_getElem_cons hjl, up hjl hn]
    simp only [Option.bind_some]
    by_cases hq : (gone nx now late) l[j] = true
    · have i1 := ih (j + 1) (a ++ [(⟨l[j].f0, l[j].f1, l[j].f2, l[j].f3⟩ : S37)]) b k (by omega) (by simp; omega) (by omega) (by omega)
      rw [if_pos hq, if_pos (by omega), i1, List.filter_cons_of_pos hq, List.filter_cons_of_neg (by simp [hq])]
      simp
    · have i2 := ih (j + 1) a (b ++ [(⟨l[j].f0, l[j].f1, l[j].f2, l[j].f3⟩ : S37)]) k (by omega) (by omega) (by simp; omega) (by omega)
      rw [if_neg hq, if_pos (by omega), i2, List.filter_cons_of_neg hq, List.filter_cons_of_pos (by simp [hq])]
      simp
end
section
variable {l : List S37} (hl : ∀ x ∈ l, Ws x) (hn : l.length < 1000000) {nx : Int}
include hl hn 
theorem parted_behind (d : Nat) : ∀ (j : Nat) (a b : List S37) (k : Nat), j + d = l.length → a.length + d < 4398046511104 → b.length + d < 4398046511104 → d + 1 + 0 ≤ k →
    ledger_parted_29.l0 k a b l (l.length : Int) (j : Int) nx = some (a ++ (l.drop j).filter (behind nx), b ++ (l.drop j).filter (fun x => !(behind nx) x)) := by
  induction d with
  | zero =>
    intro j a b k hj ha hb hk
    obtain ⟨k, rfl⟩ : ∃ m, k = m + 1 := ⟨k - 1, by omega⟩
    rw [ledger_parted_29.l0, if_neg (by omega), List.drop_eq_nil_of_le (by omega)]
    simp
  | succ d ih =>
    intro j a b k hj ha hb hk
    obtain ⟨k, rfl⟩ : ∃ m, k = m + 1 := ⟨k - 1, by omega⟩
    have hjl : j < l.length := by omega
    have hx := hl _ (List.getElem_mem hjl)
    rw [ledger_parted_29.l0, if_pos (by omega), if_pos (by omega), if_pos (by omega), rd_at hjl, lost1_eq hx, List.drop_eq_getElem_cons hjl, up hjl hn]
    simp only [Option.bind_some]
    by_cases hq : (behind nx) l[j] = true
    · have i1 := ih (j + 1) (a ++ [(⟨l[j].f0, l[j].f1, l[j].f2, l[j].f3⟩ : S37)]) b k (by omega) (by simp; omega) (by omega) (by omega)
      rw [if_pos hq, if_pos (by omega), i1, List.filter_cons_of_pos hq, List.filter_cons_of_neg (by simp [hq])]
      simp
    · have i2 := ih (j + 1) a (b ++ [(⟨l[j].f0, l[j].f1, l[j].f2, l[j].f3⟩ : S37)]) k (by omega) (by omega) (by simp; omega) (by omega)
      rw [if_neg hq, if_pos (by omega), i2, List.filter_cons_of_neg hq, List.filter_cons_of_pos (by simp [hq])]
      simp
end
section
variable {l : List S37} (hl : ∀ x ∈ l, Ws x) (hn : l.length < 1000000) {s : List S43} (hs : s.length < 1000000)
include hl hn hs
theorem ref_take (d : Nat) : ∀ (j : Nat) (a b : List S37) (k : Nat), j + d = l.length → a.length + d < 4398046511104 → b.length + d < 4398046511104 → d + 1 + (s.length + 1) ≤ k →
    wigwagref09_Take.l0 k l s a b (j : Int) = some (a ++ (l.drop j).filter (taken s), b ++ (l.drop j).filter (fun x => !(taken s) x)) := by
  induction d with
  | zero =>
    intro j a b k hj ha hb hk
    obtain ⟨k, rfl⟩ : ∃ m, k = m + 1 := ⟨k - 1, by omega⟩
    rw [wigwagref09_Take.l0, if_neg (by omega), List.drop_eq_nil_of_le (by omega)]
    simp
  | succ d ih =>
    intro j a b k hj ha hb hk
    obtain ⟨k, rfl⟩ : ∃ m, k = m + 1 := ⟨k - 1, by omega⟩
    have hjl : j < l.length := by omega
    have hx := hl _ (List.getElem_mem hjl)
    rw [wigwagref09_Take.l0, if_pos (by omega), if_pos (by omega), rd_at hjl, rtaken_eq hs _ (by omega), List.drop_eq_getElem_cons hjl, up hjl hn]
    simp only [Option.bind_some]
    by_cases hq : (taken s) l[j] = true
    · have i1 := ih (j + 1) (a ++ [(⟨l[j].f0, l[j].f1, l[j].f2, l[j].f3⟩ : S37)]) b k (by omega) (by simp; omega) (by omega) (by omega)
      rw [if_pos hq, if_pos (by omega), i1, List.filter_cons_of_pos hq, List.filter_cons_of_neg (by simp [hq])]
      simp
    · have i2 := ih (j + 1) a (b ++ [(⟨l[j].f0, l[j].f1, l[j].f2, l[j].f3⟩ : S37)]) k (by omega) (by omega) (by simp; omega) (by omega)
      rw [if_neg hq, if_pos (by omega), i2, List.filter_cons_of_neg hq, List.filter_cons_of_pos (by simp [hq])]
      simp
end
section
variable {l : List S37} (hl : ∀ x ∈ l, Ws x) (hn : l.length < 1000000)
include hl hn
theorem take_eq {s : List S43} (hs : s.length < 1000000) {k : Nat} (hk : l.length + s.length + 2 ≤ k) : ledger_Take.f k l s = some (l.filter (taken s), l.filter (fun x => !taken s x)) := by
  unfold ledger_Take.f ledger_parted_25.f
  rw [show (0 : Int) = ((0 : Nat) : Int) from rfl, parted_take hl hn hs l.length 0 [] [] k (by omega) (by simp; omega) (by simp; omega) (by omega)]
  simp
theorem rtake_eq {s : List S43} (hs : s.length < 1000000) {k : Nat} (hk : l.length + s.length + 2 ≤ k) : wigwagref09_Take.f k l s = some (l.filter (taken s), l.filter (fun x => !taken s x)) := by
  unfold wigwagref09_Take.f
  rw [show (0 : Int) = ((0 : Nat) : Int) from rfl, ref_take hl hn hs l.length 0 [] [] k (by omega) (by simp; omega) (by simp; omega) (by omega)]
  simp
theorem when_eq {late : Int} (hla : Wd late) {a b : List S37} (d : Nat) : ∀ (j : Nat) (w : Int) (k : Nat), j + d = l.length → d + 1 ≤ k →
    ledger_Lost.l0 k a b w l (l.length : Int) (j : Int) late = some (a, b, wh late (l.drop j) w (decide (j ≠ 0))) := by
  induction d with
  | zero =>
    intro j w k hj hk
    obtain ⟨k, rfl⟩ : ∃ m, k = m + 1 := ⟨k - 1, by omega⟩
    rw [ledger_Lost.l0, if_neg (by omega), List.drop_eq_nil_of_le (by omega)]
    rfl
  | succ d ih =>
    intro j w k hj hk
    obtain ⟨k, rfl⟩ : ∃ m, k = m + 1 := ⟨k - 1, by omega⟩
    have hjl : j < l.length := by omega
    have hx := hl _ (List.getElem_mem hjl)
    rw [ledger_Lost.l0, if_pos (by omega), if_pos (by omega), if_pos (by omega), rd_at hjl, add_eq hx.a hla, List.drop_eq_getElem_cons hjl, up hjl hn, wh]
    simp only [Option.bind_some]
    have i := fun w => ih (j + 1) w k (by omega) (by omega)
    rw [show decide (j + 1 ≠ 0) = true by simp] at i
    rw [i, i]
    by_cases h0 : j = 0
    · rw [if_pos (by omega), if_pos (.inl (by simp [h0]))]
    · rw [if_neg (by omega)]
      by_cases h1 : sadd l[j].f1 late < w
      · rw [if_pos h1, if_pos (.inr h1)]
      · rw [if_neg h1, if_neg (by simp [h0, h1])]
end
theorem filter_ws {l : List S37} (hl : ∀ x ∈ l, Ws x) (p : S37 → Bool) : ∀ x ∈ l.filter p, Ws x := fun x h => hl x (List.mem_filter.mp h).1
section
variable {l : List S37} (hl : ∀ x ∈ l, Ws x) (hn : l.length < 1000000) {nx now late : Int} (hla : Wd late)
include hl hn hla
theorem lost_eq {k : Nat} (hk : l.length + 2 ≤ k) : ledger_Lost.f k l nx now late = some (l.filter (gone nx now late), l.filter (fun x => !gone nx now late x), wh late ((l.filter (fun x => !gone nx now late x)).filter (behind nx)) 0 false) := by
  unfold ledger_Lost.f ledger_parted_30.f
  have h1 := List.length_filter_le (fun x => !gone nx now late x) l
  rw [show (0 : Int) = ((0 : Nat) : Int) from rfl, parted_lost hl hn hla l.length 0 [] [] k (by omega) (by simp; omega) (by simp; omega) (by omega)]
  simp only [Option.bind_some, List.drop_zero, List.nil_append]
  have hl2 := filter_ws hl (fun x => !gone nx now late x)
  generalize l.filter (fun x => !gone nx now late x) = m at h1 hl2
  unfold ledger_parted_29.f
  have h2 := List.length_filter_le (behind nx) m
  rw [show (0 : Int) = ((0 : Nat) : Int) from rfl, parted_behind hl2 (by omega) m.length 0 [] [] k (by omega) (by simp; omega) (by simp; omega) (by omega)]
  simp only [Option.bind_some, List.drop_zero, List.nil_append]
  have e := when_eq (filter_ws hl2 (behind nx)) (by omega) hla (a := l.filter (gone nx now late)) (b := m) (m.filter (behind nx)).length 0 ((0 : Nat) : Int) k (by omega) (by omega)
  rw [e]
  simp
theorem rlost_loop (d : Nat) : ∀ (j : Nat) (a b : List S37) (w : Int) (f : Bool) (k : Nat), j + d = l.length → a.length + d < 4398046511104 → b.length + d < 4398046511104 → 2 * d + 1 ≤ k →
    wigwagref09_Lost.l0 k l nx now late a b w f (j : Int) = some (a ++ (l.drop j).filter (gone nx now late), b ++ (l.drop j).filter (fun x => !gone nx now late x), wh late (((l.drop j).filter (fun x => !gone nx now late x)).filter (behind nx)) w f) := by
  induction d with
  | zero =>
    intro j a b w f k hj ha hb hk
    obtain ⟨k, rfl⟩ : ∃ m, k = m + 1 := ⟨k - 1, by omega⟩
    rw [wigwagref09_Lost.l0, if_neg (by omega), List.drop_eq_nil_of_le (by omega)]
    simp [wh]
  | succ d ih =>
    intro j a b w f k hj ha hb hk
    obtain ⟨k, rfl⟩ : ∃ m, k = m + 2 := ⟨k - 2, by omega⟩
    have hjl : j < l.length := by omega
    have hx := hl _ (List.getElem_mem hjl)
    have key : ∀ t, t = gone nx now late l[j] → wigwagref09_Lost.j1 (k + 1) l nx now late a b w f (j : Int) (decide (sadd l[j].f0 1 < nx)) (sadd l[j].f1 late) t = some (a ++ (l.drop j).filter (gone nx now late), b ++ (l.drop j).filter (fun x => !gone nx now late x), wh late (((l.drop j).filter (fun x => !gone nx now late x)).filter (behind nx)) w f) := by
      intro t ht
      rw [wigwagref09_Lost.j1, if_pos (show (0:Int) ≤ (j:Int) by omega), if_pos (show (j:Int) < (l.length : Int) by omega), if_pos (show (0:Int) ≤ (j:Int) by omega), if_pos (show (j:Int) < (l.length : Int) by omega), rd_at hjl, List.drop_eq_getElem_cons hjl, up hjl hn]
      cases t with
      | true =>
        have i1 := ih (j + 1) (a ++ [(⟨l[j].f0, l[j].f1, l[j].f2, l[j].f3⟩ : S37)]) b w f k (by omega) (by simp; omega) (by omega) (by omega)
        rw [if_pos rfl, if_pos (by omega), i1, List.filter_cons_of_pos ht.symm, List.filter_cons_of_neg (by simp [← ht])]
        simp
      | false =>
        have i2 := fun w f => ih (j + 1) a (b ++ [(⟨l[j].f0, l[j].f1, l[j].f2, l[j].f3⟩ : S37)]) w f k (by omega) (by omega) (by simp; omega) (by omega)
        rw [if_neg (by simp), if_pos (by omega)]
        simp only [Option.bind_some]
        simp only [i2]
        rw [List.filter_cons_of_neg (by simp [← ht]), List.filter_cons_of_pos (by simp [← ht])]
        by_cases hb' : sadd l[j].f0 1 < nx
        · rw [if_pos (by simpa using hb'), List.filter_cons_of_pos (by unfold behind; simpa using hb'), wh]
          cases f with
          | true =>
            rw [if_pos rfl]
            by_cases hw : sadd l[j].f1 late < w
            · rw [if_pos hw, if_pos (.inr hw)]; simp
            · rw [if_neg hw, if_neg (by simp [hw])]; simp
          | false => rw [if_neg (by simp), if_pos (.inl rfl)]; simp
        · rw [if_neg (by simpa using hb'), List.filter_cons_of_neg (by unfold behind; simpa using hb')]; simp
    rw [wigwagref09_Lost.l0, if_pos (by omega), if_pos (by omega), rd_at hjl, radd_eq hx.n one_wd, radd_eq hx.a hla, radd_eq hx.n four_wd]
    simp only [Option.bind_some]
    by_cases h1 : sadd l[j].f0 1 < nx
    · rw [if_pos h1]
      by_cases h2 : sadd l[j].f0 4 ≤ nx
      · rw [if_pos h2]; exact key _ (by unfold gone behind; simp [h1, h2])
      · rw [if_neg h2]; exact key _ (by unfold gone behind; simp [h1, h2])
    · rw [if_neg h1]; exact key _ (by unfold gone behind; simp [h1])
theorem rlost_eq {k : Nat} (hk : 2 * l.length + 2 ≤ k) : wigwagref09_Lost.f k l nx now late = some (l.filter (gone nx now late), l.filter (fun x => !gone nx now late x), wh late ((l.filter (fun x => !gone nx now late x)).filter (behind nx)) 0 false) := by
  unfold wigwagref09_Lost.f
  have e := rlost_loop hl hn hla (nx := nx) (now := now) l.length 0 [] [] 0 false k (by omega) (by simp; omega) (by simp; omega) (by omega)
  simpa using e
end
theorem same_loop (l : List S37) (hn : l.length < 1000000) (d : Nat) : ∀ (j k : Nat), j + d = l.length → d + 1 ≤ k → wigwagref09_Same.l0 k l l (j : Int) = some true := by
  induction d with
  | zero =>
    intro j k hj hk
    obtain ⟨k, rfl⟩ : ∃ m, k = m + 1 := ⟨k - 1, by omega⟩
    rw [wigwagref09_Same.l0, if_neg (by omega)]
  | succ d ih =>
    intro j k hj hk
    obtain ⟨k, rfl⟩ : ∃ m, k = m + 1 := ⟨k - 1, by omega⟩
    rw [wigwagref09_Same.l0, if_pos (by omega), if_pos (by omega), if_pos (by omega), if_neg (by simp), up (show j < l.length by omega) hn, ih (j + 1) k (by omega) (by omega)]
theorem same_eq {l : List S37} (hn : l.length < 1000000) {k : Nat} (hk : l.length + 1 ≤ k) : wigwagref09_Same.f k l l = some true := by
  unfold wigwagref09_Same.f
  rw [if_pos rfl]
  exact same_loop l hn l.length 0 k (by omega) (by omega)
theorem awake_at : wigwaglaw09_awake.f 10 = some true := by decide +kernel
theorem awake_eq (k : Nat) (h : 10 ≤ k) : wigwaglaw09_awake.f k = some true := at_rounds wigwaglaw09_awake.mono h awake_at
theorem few_eq (l : List S37) : wigwaglaw09_few.f l = some (decide ((l.length : Int) ≤ 50)) := rfl
/-- What a list's time is: of one of these, and none is less. -/
theorem wh_found (late : Int) : ∀ (l : List S37) (w : Int), (wh late l w true ≤ w) ∧ (∀ x ∈ l, wh late l w true ≤ sadd x.f1 late) ∧ (wh late l w true = w ∨ ∃ x ∈ l, wh late l w true = sadd x.f1 late)
  | [], w => ⟨by simp [wh], by simp, .inl rfl⟩
  | x :: t, w => by
    rw [wh]
    by_cases h : sadd x.f1 late < w
    · rw [if_pos (.inr h)]
      obtain ⟨h1, h2, h3⟩ := wh_found late t (sadd x.f1 late)
      refine ⟨by omega, ?_, ?_⟩
      · intro y hy
        rcases List.mem_cons.mp hy with q | q
        · rw [q]; exact h1
        · exact h2 y q
      · rcases h3 with q | ⟨y, hy, q⟩
        · exact .inr ⟨x, List.mem_cons_self .., q⟩
        · exact .inr ⟨y, List.mem_cons_of_mem _ hy, q⟩
    · rw [if_neg (by simp [h])]
      obtain ⟨h1, h2, h3⟩ := wh_found late t w
      refine ⟨h1, ?_, ?_⟩
      · intro y hy
        rcases List.mem_cons.mp hy with q | q
        · rw [q]; omega
        · exact h2 y q
      · rcases h3 with q | ⟨y, hy, q⟩
        · exact .inl q
        · exact .inr ⟨y, List.mem_cons_of_mem _ hy, q⟩
theorem wh_first {late : Int} {l : List S37} (hne : l ≠ []) : (∀ x ∈ l, wh late l 0 false ≤ sadd x.f1 late) ∧ ∃ x ∈ l, wh late l 0 false = sadd x.f1 late := by
  cases l with
  | nil => exact absurd rfl hne
  | cons x t =>
    rw [wh, if_pos (.inl rfl)]
    obtain ⟨h1, h2, h3⟩ := wh_found late t (sadd x.f1 late)
    refine ⟨?_, ?_⟩
    · intro y hy
      rcases List.mem_cons.mp hy with q | q
      · rw [q]; exact h1
      · exact h2 y q
    · rcases h3 with q | ⟨y, hy, q⟩
      · exact ⟨x, List.mem_cons_self .., q⟩
      · exact ⟨y, List.mem_cons_of_mem _ hy, q⟩
end Go.Proofs.Ytfgmikhlplbmeaa.Pure
