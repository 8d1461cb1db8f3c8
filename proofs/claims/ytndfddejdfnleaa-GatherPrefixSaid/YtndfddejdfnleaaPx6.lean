-- Printed for this claim by xprint.py of this session: contracts of this session's own stand in for what the print does not take
import Derived.Test.YtndfddejdfnleaaPx0
import Derived.Test.YtndfddejdfnleaaPx2
namespace Go.Proofs.Ytndfddejdfnleaa.P
open Go.RowKit Go.Proofs.YtndfddejdfnleaaW.PrintWords Go.Proofs.YtndfddejdfnleaaW.PrintLast Go.Proofs.YtndfddejdfnleaaW.PrintMore
attribute [local go_sem] max2_int min2_int max_two min_two max_three min_three max_four min_four   -- for this text's walks alone
set_option linter.unusedVariables false
set_option linter.unusedSimpArgs false

/-! ### span_Cut_1: function 23 -/
/-- keep: what it appends to the list in the box that it captured. -/
def span_Cut_1.add (l : List S41) (a0 a1 : Int) : List S41 := l ++ (if a0 < a1 then [(⟨a0, a1⟩ : S41)] else [])
set_option maxHeartbeats 8000000 in
set_option maxRecDepth 100000 in
theorem span_Cut_1.hand (a0 a1 : Int) (gx : Nat) (v : Value) (l : List S41) (ok : Nat → Prop) (w0 w : World) (hbx : w.heap[gx]? = some (.cells #[v] 26 (0, 0))) (ho : Kd.R k41 41 w w0.heap.size ok v l) (hok : ∀ k, w.heap.size ≤ k → ok k) (hB : Below w0.heap.size w0 w) (hg : w0.heap.size ≤ gx) (hl : l.length < 8796093022208) :
    Calls Try.prog 23 #[.int .u64 a0, .int .u64 a1, .pointer (some ⟨gx, 0, none⟩)] w fun e w' => e = .returned (.tuple #[]) ∧ ∃ v', w'.heap[gx]? = some (.cells #[v'] 26 (0, 0)) ∧ Kd.R k41 41 w' w0.heap.size ok v' (span_Cut_1.add l a0 a1) ∧ Below w0.heap.size w0 w' ∧ ∀ (g : Nat) (o : Obj), w.heap[g]? = some o → g ≠ gx → some g ≠ v.ownBlock → w'.heap[g]? = some o := by
  have BK := Aside0.mk hbx
  have HO := Aside0.mk ho
  have HB := Aside0.mk hB
  have GE := Aside0.mk hg
  clear hbx ho hB hg
  unfold span_Cut_1.add
  by_cases c : a0 < a1
  · have cb : decide (a0 < a1) = true := decide_eq_true c
    rw [if_pos c]
    clear c
    have hx : w.cell? ⟨gx, 0, none⟩ = some v := (blk_cell BK.out 0).trans rfl
    have hf : w.frozen? ⟨gx, 0, none⟩ = false := blk_frozen BK.out 0
    obtain ⟨A, c, rfl⟩ := Kd.R_slice HO.out
    go_enter Try.func23, Try.ntmps23
    go_wp2_with (first | ((with_reducible refine gate_builtin (b := .append) (xs := #[.tmp 8, .tmp 12]) rfl ?_); at_builtin; refine Kd.R_append k41 (w0 := w0) w0.heap.size rfl (.tmp 8) (.tmp 12) 26 41 (.agg #[(.int .u64 0), (.int .u64 0)]) 16 rfl Try.underlying26 info41 rfl (by decide) (by omega) _ l (⟨a0, a1⟩ : S41) [.int .u64 a0, .int .u64 a1] ok (fun _ => False) rfl rfl ?aP (fun _ hk => hk.elim) ?aF ?aO ?aB ?aS ?aL ?_; (case aP => exact k41_mkM _ _ _ (⟨a0, a1⟩ : S41)); (case aF => exact hok); (case aO => exact HO.out); (case aB => exact HB.out); (case aS => exact HB.out.size); (case aL => omega); intro v1 w1 ho1 hb1 hg1 hat1; obtain ⟨A1, c1, rfl⟩ := Kd.R_slice ho1; have hbk1 := blk_grown (g := gx) BK.out hg1 (Kd.R_ne HO.out BK.out (by decide)); have hx1 : w1.cell? ⟨gx, 0, none⟩ = some (.slice A l.length c) := (blk_cell hbk1 0).trans rfl; have hf1 : w1.frozen? ⟨gx, 0, none⟩ = false := blk_frozen hbk1 0))
    go_end0
    have e : (l ++ [(⟨a0, a1⟩ : S41)]).length = l.length + 1 := by simp
    rw [e] at ho1
    exact ⟨rfl, _, blk_put hbk1 0 _ rfl, Kd.R_set ho1 hbk1 (by intro q hq; have h2 : q ∈ [41] := hq; simp at h2; omega) 0 _, below_set hb1 GE.out, fun g o h hne hno => (Below.heap_setCell w1 ⟨gx, 0, none⟩ _ g hne).trans (blk_grown h hg1 hno)⟩
  · have cb : decide (a0 < a1) = false := decide_eq_false c
    rw [if_neg c, List.append_nil]
    clear c
    go_enter Try.func23, Try.ntmps23
    go_wp2
    go_end0
    exact ⟨rfl, v, BK.out, HO.out, HB.out, fun g o h _ _ => h⟩

/-! ### span_Cut: function 18 -/
def span_Cut.fold (l : List S41) (a b : Int) : List S41 := l.foldl (fun out x => span_Cut_1.add (span_Cut_1.add out x.f0 (mn x.f1 a)) (mx x.f0 b) x.f1) []
def span_Cut.f (l0 : List S41) (a1_0 : Int) (a1_1 : Int) : Option (List S41) := if a1_1 ≤ a1_0 then api_Span.f l0 else if l0.length < 1000000000 then some (span_Cut.fold l0 a1_0 a1_1) else none
theorem span_Cut.add_len (l : List S41) (a b : Int) : (span_Cut_1.add l a b).length ≤ l.length + 1 := by
  unfold span_Cut_1.add
  split <;> simp
theorem span_Cut.fold_len (a b : Int) : ∀ (l o : List S41), (l.foldl (fun out x => span_Cut_1.add (span_Cut_1.add out x.f0 (mn x.f1 a)) (mx x.f0 b) x.f1) o).length ≤ o.length + 2 * l.length
  | [], o => by simp
  | x :: l, o => by
    have h := span_Cut.fold_len a b l (span_Cut_1.add (span_Cut_1.add o x.f0 (mn x.f1 a)) (mx x.f0 b) x.f1)
    have h1 := span_Cut.add_len o x.f0 (mn x.f1 a)
    have h2 := span_Cut.add_len (span_Cut_1.add o x.f0 (mn x.f1 a)) (mx x.f0 b) x.f1
    simp only [List.foldl_cons, List.length_cons]
    omega
theorem span_Cut.fold_small (l : List S41) (a b : Int) (i : Nat) (h : l.length < 1000000000) : (span_Cut.fold (l.take i) a b).length < 8796093022206 := by
  have h1 := span_Cut.fold_len a b (l.take i) []
  have h3 : (l.take i).length ≤ l.length := by rw [List.length_take]; omega
  unfold span_Cut.fold
  simp only [List.length_nil] at h1
  omega
theorem span_Cut.fold_snoc (l : List S41) (x : S41) (a b : Int) : span_Cut.fold (l ++ [x]) a b = span_Cut_1.add (span_Cut_1.add (span_Cut.fold l a b) x.f0 (mn x.f1 a)) (mx x.f0 b) x.f1 := by
  unfold span_Cut.fold
  rw [List.foldl_append]
  rfl
theorem span_Cut.take_rd {l : List S41} {i : Int} (h0 : 0 ≤ i) (h : i < l.length) : l.take (i + 1).toNat = l.take i.toNat ++ [rd_T41 l i] := by
  have h1 : i.toNat < l.length := by omega
  rw [show (i + 1).toNat = i.toNat + 1 by omega, List.take_succ_eq_append_getElem h1]
  unfold rd_T41
  simp [List.getD_eq_getElem?_getD, List.getElem?_eq_getElem h1]
set_option maxHeartbeats 8000000 in
set_option maxRecDepth 100000 in
theorem span_Cut.calls (A0 : Option Addr) (c0 : Nat) (l0 : List S41) (a1_0 : Int) (a1_1 : Int) (r : List S41) (w : World) (hr0 : Kd.C k41 w A0 l0.length l0) (hc0 : l0.length ≤ c0) (h : span_Cut.f l0 a1_0 a1_1 = some r) :
    Calls Try.prog 18 #[.slice A0 l0.length c0, .agg #[.int .u64 a1_0, .int .u64 a1_1]] w fun e w' => ∃ v0_ : Value, e = .returned (v0_) ∧ Kd.R k41 41 w' w.heap.size (fun _ => True) v0_ r ∧ Below w.heap.size w w' := by
  have HR0 := Aside0.mk hr0
  have HC0 := Aside0.mk hc0
  clear hr0 hc0
  have HB := Aside0.mk (Below.refl w.heap.size w)
  unfold span_Cut.f at h
  by_cases c : a1_1 ≤ a1_0
  · rw [if_pos c] at h
    have cb : decide (a1_1 ≤ a1_0) = true := decide_eq_true c
    have A3 := Aside0.mk h
    clear h c
    go_enter Try.func18, Try.ntmps18
    go_wp2_with (first | ((with_reducible refine gate_dst (N := 3) rfl ?_); refine box_event ?hg (N := 3) ?hd (cs := #[.int .u64 a1_0, .int .u64 a1_1]) (t := 41) ?hr ?_; (case hd => rfl); (case hg => rfl); (case hr => first | (go_simp; done) | (go_simp; rfl)); intro gb3 hg w3 hbox hb; have n0_ := Aside0.mk (below_step HB.out hb); clear HB; have HB := n0_; have hx0 : w3.cell? ⟨gb3, 0, none⟩ = some (.int .u64 a1_0) := (blk_cell hbox 0).trans rfl; have hx1 : w3.cell? ⟨gb3, 1, none⟩ = some (.int .u64 a1_1) := (blk_cell hbox 1).trans rfl; clear hbox hb hg n0_) | ((with_reducible refine gate_callee (f := 22) rfl ?_); refine goesL_ (some 15) rfl rfl Try.func22 (by kernel_rfl) rfl #[.slice A0 l0.length c0] rfl (by (try simp only [List.map_toArray, List.map_cons, List.map_nil]); first | done | rfl) ?_; (with_reducible refine (api_Span.calls A0 c0 l0 r _ (Kd.C_below HR0.out HB.out) HC0.out A3.out).mono ?_); rintro e w5 ⟨v1, rfl, ho, hb⟩; refine ⟨_, rfl, ?_⟩; have HO := Aside0.mk (Kd.R_lower ho HB.out.size); have n0_ := Aside0.mk (below_step HB.out hb); clear HB; have HB := n0_; clear ho hb n0_))
    go_ret
    exact ⟨_, rfl, HO.out, HB.out⟩
  · rw [if_neg c] at h
    have cb : decide (a1_1 ≤ a1_0) = false := decide_eq_false c
    by_cases cl : l0.length < 1000000000
    · rw [if_pos cl] at h
      obtain rfl := Option.some.inj h
      have CL := Aside0.mk cl
      clear h c cl
      go_enter Try.func18, Try.ntmps18
      go_wp2_with (first | ((with_reducible refine gate_dst (N := 3) rfl ?_); refine box_event ?hg (N := 3) ?hd (cs := #[.int .u64 a1_0, .int .u64 a1_1]) (t := 41) ?hr ?_; (case hd => rfl); (case hg => rfl); (case hr => first | (go_simp; done) | (go_simp; rfl)); intro gb3 hg w3 hbox hb; have n0_ := Aside0.mk (below_step HB.out hb); have GE3 := Aside0.mk (show w.heap.size ≤ gb3 by rw [hg]; exact HB.out.size); clear HB; have HB := n0_; have hx0 : w3.cell? ⟨gb3, 0, none⟩ = some (.int .u64 a1_0) := (blk_cell hbox 0).trans rfl; have hx1 : w3.cell? ⟨gb3, 1, none⟩ = some (.int .u64 a1_1) := (blk_cell hbox 1).trans rfl; have BK3 := Aside0.mk hbox; clear hbox hb hg n0_) | ((with_reducible refine gate_dst (N := 5) rfl ?_); refine box_event ?hg (N := 5) ?hd (cs := #[.slice none 0 0]) (t := 26) ?hr ?_; (case hd => rfl); (case hg => rfl); (case hr => first | (go_simp; done) | (go_simp; rfl)); intro gb5 hg w5 hbox hb; have n0_ := Aside0.mk (below_step HB.out hb); have GE5 := Aside0.mk (show w.heap.size ≤ gb5 by rw [hg]; exact HB.out.size); have n1_ := Aside0.mk (blk_below BK3.out hb); clear HB BK3; have HB := n0_; have BK3 := n1_; have BK5 := Aside0.mk hbox; clear hbox hb hg n0_ n1_))
      go_loopg [19] l0.length (fun kq v19 w' => ∃ (i : Int) (vo : Value), v19 = .int .i64 i ∧ Aside0 (0 ≤ i ∧ i + kq = l0.length) ∧ Aside0 (w'.heap[gb5]? = some (.cells #[vo] 26 (0, 0))) ∧ Aside0 (w'.heap[gb3]? = some (.cells #[.int .u64 a1_0, .int .u64 a1_1] 41 (0, 0))) ∧ Aside0 (Kd.R k41 41 w' w.heap.size (fun k_ => k_ ≠ gb3) vo (span_Cut.fold (l0.take i.toNat) a1_0 a1_1)) ∧ Aside0 (Below w.heap.size w w'))
      case atStart => exact ⟨0, _, rfl, ⟨by simp⟩, BK5, BK3, ⟨Kd.R_nil _ _ _ _ _⟩, HB⟩
      case round =>
        obtain ⟨i, vo, rfl, HN, BK5, BK3, HO, HB⟩ := hrel
        by_cases ci : i < (l0.length : Int)
        · have cib : decide (i < (l0.length : Int)) = true := decide_eq_true ci
          cases gk with
          | zero => exact absurd HN.out.2 (by omega)
          | succ k1 =>
            have HS := Aside0.mk (span_Cut.take_rd HN.out.1 ci)
            have HL := Aside0.mk (span_Cut.fold_small l0 a1_0 a1_1 i.toNat CL.out)
            have p0 : 0 ≤ (i : Int) := HN.out.1
            have q0 : (i : Int) < (l0.length : Int) := ci
            obtain ⟨ad, e, hxa, hxb⟩ := at_T41 HR0.out (i : Int) p0 q0
            cases e
            replace hxa := (HB.out.cell (World.block_lt_of_cell? w _ hxa)).trans hxa
            replace hxb := (HB.out.cell (World.block_lt_of_cell? w _ hxb)).trans hxb
            replace p0 := eq_true p0
            replace q0 := eq_true q0
            clear ci
            generalize (rd_T41 l0 (i : Int)) = x at hxa hxb HS
            go_wp2_with (first
              | ((with_reducible refine gate_dst (N := 8) rfl ?_); refine box_event ?hg (N := 8) ?hd (cs := #[.int .u64 0, .int .u64 0]) (t := 41) ?hr ?_; (case hd => rfl); (case hg => rfl); (case hr => first | (go_simp; done) | (go_simp; rfl)); intro gb8 hg w8 hbox hb; have n0_ := Aside0.mk (below_step HB.out hb); have GE8 := Aside0.mk (show w.heap.size ≤ gb8 by rw [hg]; exact HB.out.size); have n1_ := Aside0.mk (blk_below BK3.out hb); have n2_ := Aside0.mk (blk_below BK5.out hb); have n3_ := Aside0.mk (Kd.R_below (Kd.R_elderB HO.out gb8 (Nat.le_of_eq hg.symm)) hb); have NB38 : gb3 ≠ gb8 := (by rw [hg]; exact Nat.ne_of_lt (blk_lt BK3.out)); have NB58 : gb5 ≠ gb8 := (by rw [hg]; exact Nat.ne_of_lt (blk_lt BK5.out)); have NB83 := NB38.symm; have NB85 := NB58.symm; clear HB BK3 BK5 HO; have HB := n0_; have BK3 := n1_; have BK5 := n2_; have HO := n3_; have BK8 := Aside0.mk hbox; clear hbox hb hg n0_ n1_ n2_ n3_; have hc0 : w8.cell? ⟨gb8, 0, none⟩ = some (.int .u64 0) := (blk_cell BK8.out 0).trans rfl; have hc1 : w8.cell? ⟨gb8, 1, none⟩ = some (.int .u64 0) := (blk_cell BK8.out 1).trans rfl; have hf0 := blk_frozen BK8.out 0; have hf1 := blk_frozen BK8.out 1; have hs0 : w8.cell? ⟨gb3, 0, none⟩ = some (.int .u64 a1_0) := (blk_cell BK3.out 0).trans rfl; have hs1 : w8.cell? ⟨gb3, 1, none⟩ = some (.int .u64 a1_1) := (blk_cell BK3.out 1).trans rfl)
              | ((refine gate_closure (f := 23) rfl rfl ?_); refine goesC_ (some 31) rfl rfl Try.func23 (by kernel_rfl) rfl #[.int .u64 x.f0, .int .u64 (mn x.f1 a1_0), .pointer (some ⟨gb5, 0, none⟩)] rfl rfl (by (try simp only [List.map_toArray, List.map_cons, List.map_nil]); first | done | rfl) ?_;
                 have m3 := Aside0.mk (blk_far (blk_far BK3.out (p := ⟨gb8, 0, none⟩) NB38 (.int .u64 x.f0)) (p := ⟨gb8, 1, none⟩) NB38 (.int .u64 x.f1));
                 have m5 := Aside0.mk (blk_far (blk_far BK5.out (p := ⟨gb8, 0, none⟩) NB58 (.int .u64 x.f0)) (p := ⟨gb8, 1, none⟩) NB58 (.int .u64 x.f1));
                 have m8 := Aside0.mk (blk_put (blk_put BK8.out 0 (.int .u64 x.f0) rfl) 1 (.int .u64 x.f1) rfl);
                 have mO := Aside0.mk (Kd.R_far (p := ⟨gb8, 1, none⟩) (Kd.R_far (p := ⟨gb8, 0, none⟩) HO.out (fun _ hk => hk.2) (.int .u64 x.f0)) (fun _ hk => hk.2) (.int .u64 x.f1));
                 have mB := Aside0.mk (below_set (below_set HB.out GE8.out (j := 0) (v := .int .u64 x.f0)) GE8.out (j := 1) (v := .int .u64 x.f1));
                 clear BK3 BK5 BK8 HO HB hc0 hc1 hf0 hf1 hs0 hs1 hxa hxb;
                 (with_reducible refine (span_Cut_1.hand x.f0 (mn x.f1 a1_0) gb5 vo _ (fun k_ => k_ ≠ gb3 ∧ k_ ≠ gb8) w _ m5.out mO.out (fun k hk => ⟨Kd.freshB m3.out k hk, Kd.freshB m8.out k hk⟩) mB.out GE5.out (by have := HL.out; omega)).mono ?_);
                 rintro e w9 ⟨rfl, v1, hbk, ho, hb, hfr⟩; refine ⟨_, rfl, ?_⟩;
                 have BK3 := Aside0.mk (hfr gb3 _ m3.out (by have := @blk_ne; exact blk_ne m3.out m5.out (by decide)) (Kd.R_away mO.out (fun _ hk => hk.1)));
                 have BK8 := Aside0.mk (hfr gb8 _ m8.out NB85 (Kd.R_away mO.out (fun _ hk => hk.2)));
                 have BK5 := Aside0.mk hbk; have HO := Aside0.mk ho; have HB := Aside0.mk hb; clear hbk ho hb hfr m3 m5 m8 mO mB;
                 have hc0 : w9.cell? ⟨gb8, 0, none⟩ = some (.int .u64 x.f0) := (blk_cell BK8.out 0).trans rfl; have hc1 : w9.cell? ⟨gb8, 1, none⟩ = some (.int .u64 x.f1) := (blk_cell BK8.out 1).trans rfl; have hs1 : w9.cell? ⟨gb3, 1, none⟩ = some (.int .u64 a1_1) := (blk_cell BK3.out 1).trans rfl)
              | ((refine gate_closure (f := 23) rfl rfl ?_); refine goesC_ (some 40) rfl rfl Try.func23 (by kernel_rfl) rfl #[.int .u64 (mx x.f0 a1_1), .int .u64 x.f1, .pointer (some ⟨gb5, 0, none⟩)] rfl rfl (by (try simp only [List.map_toArray, List.map_cons, List.map_nil]); first | done | rfl) ?_;
                 (with_reducible refine (span_Cut_1.hand (mx x.f0 a1_1) x.f1 gb5 _ _ (fun k_ => k_ ≠ gb3 ∧ k_ ≠ gb8) w _ BK5.out HO.out (fun k hk => ⟨Kd.freshB BK3.out k hk, Kd.freshB BK8.out k hk⟩) HB.out GE5.out (by have := HL.out; have := span_Cut.add_len (span_Cut.fold (l0.take i.toNat) a1_0 a1_1) x.f0 (mn x.f1 a1_0); omega)).mono ?_);
                 rintro e w10 ⟨rfl, v2, hbk, ho, hb, hfr⟩; refine ⟨_, rfl, ?_⟩;
                 have n0_ := Aside0.mk (hfr gb3 _ BK3.out (blk_ne BK3.out BK5.out (by decide)) (Kd.R_away HO.out (fun _ hk => hk.1)));
                 clear BK3 BK5 BK8 HO HB hc0 hc1 hs1; have BK3 := n0_; have BK5 := Aside0.mk hbk; have HO := Aside0.mk (Kd.R_mono ho (fun _ hk => hk.1)); have HB := Aside0.mk hb; clear hbk ho hb hfr n0_))
            all_goals (
              have hw : wrap64 (i + 1) = i + 1 := by have h1 := CL.out; have h2 := HN.out; unfold wrap64; omega
              go_roundg k1
              case measure => omega
              case rel => exact ⟨wrap64 (i + 1), v2, rfl, ⟨by have h2 := HN.out; rw [hw]; omega⟩, BK5, BK3, ⟨by rw [hw, HS.out, span_Cut.fold_snoc]; exact HO.out⟩, HB⟩)
        · have cib : decide (i < (l0.length : Int)) = false := decide_eq_false ci
          have hi : l0.take i.toNat = l0 := List.take_of_length_le (by omega)
          rw [hi] at HO
          have hxo : _ = some vo := (blk_cell BK5.out 0).trans rfl
          obtain ⟨Ao, co, rfl⟩ := Kd.R_slice HO.out
          go_wp2
          go_ret
          exact ⟨_, rfl, Kd.R_mono HO.out (fun _ _ => trivial), HB.out⟩
    · rw [if_neg cl] at h
      exact absurd h (by simp)

end Go.Proofs.Ytndfddejdfnleaa.P
