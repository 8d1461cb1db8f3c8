-- Printed for this claim by xprint.py of this session: contracts of this session's own stand in for what the print does not take
import Derived.Test.YtadhkamocbhbmaaPx0
import Derived.Test.YtadhkamocbhbmaaPx7
namespace Go.Proofs.Ytadhkamocbhbmaa.P
open Go.RowKit Go.Proofs.YtadhkamocbhbmaaW.PrintWords Go.Proofs.YtadhkamocbhbmaaW.PrintLast Go.Proofs.YtadhkamocbhbmaaW.PrintMore
attribute [local go_sem] max2_int min2_int max_two min_two max_three min_three max_four min_four   -- for this text's walks alone
set_option linter.unusedVariables false
set_option linter.unusedSimpArgs false

/-! ### supply_Next_1: function 23 -/
set_option maxHeartbeats 8000000 in
set_option maxRecDepth 100000 in
theorem supply_Next_1.hand (gc gt : Nat) (vd : Value) (off tz : Int) (cf : Bool) (t2 : List S37) (b : Int) (d : List Int) (t c : List S37) (v1 v2 v3 : Value) (fin ft fc : Bool) (g g4 : Nat) (cs4 : Array Value) (w0 W : World)
    (hb : W.heap[g]? = some (.cells #[.int .u64 b, v1, v2, v3, .bool fin, .bool ft, .bool fc] 27 (0, 0))) (hb4 : W.heap[g4]? = some (.cells cs4 27 (0, 0))) (hne : g ≠ g4) (hge : w0.heap.size ≤ g) (r1 : Kd.R (Kd.int .u8) 5 W w0.heap.size (fun _ => True) v1 d) (r2 : Kd.R k37 37 W w0.heap.size (fun _ => True) v2 t) (r3 : Kd.R k37 37 W w0.heap.size (fun _ => True) v3 c) (hB : Below w0.heap.size w0 W) (hgc : W.heap[gc]? = some (.cells #[.int .u64 off, vd, .bool cf] 32 (0, 0))) (hgt : W.heap[gt]? = some (.cells #[.int .u64 tz] 24 (0, 0))) (hT : span_Cut.f t off tz = some t2) :
    Calls Try.prog 23 #[.pointer (some ⟨g, 0, none⟩), .pointer (some ⟨gc, 0, none⟩), .pointer (some ⟨gt, 0, none⟩)] W fun e_ W2 => e_ = .returned (.tuple #[]) ∧ ∃ u2 : Value, W2.heap[g]? = some (.cells #[.int .u64 b, v1, u2, v3, .bool fin, .bool (ft && !cf), .bool fc] 27 (0, 0)) ∧ W2.heap[g4]? = some (.cells cs4 27 (0, 0)) ∧ Kd.R (Kd.int .u8) 5 W2 w0.heap.size (fun _ => True) v1 d ∧ Kd.R k37 37 W2 w0.heap.size (fun _ => True) u2 t2 ∧ Kd.R k37 37 W2 w0.heap.size (fun _ => True) v3 c ∧ Below w0.heap.size w0 W2 := by
  obtain ⟨B1, q1, e1_⟩ := Kd.R_slice r1
  subst e1_
  obtain ⟨B2, q2, e2_⟩ := Kd.R_slice r2
  subst e2_
  obtain ⟨B3, q3, e3_⟩ := Kd.R_slice r3
  subst e3_
  have BS := Aside0.mk hb
  have B4 := Aside0.mk hb4
  have GE := Aside0.mk hge
  have O_d := Aside0.mk r1
  have O_t := Aside0.mk r2
  have O_c := Aside0.mk r3
  have HB := Aside0.mk hB
  clear hb hb4 hge r1 r2 r3 hB
  have BC := Aside0.mk hgc
  have NE_gc : gc ≠ g := blk_ne BC.out BS.out (by decide)
  clear hgc
  have BT := Aside0.mk hgt
  have NE_gt : gt ≠ g := blk_ne BT.out BS.out (by decide)
  clear hgt
  have HT := Aside0.mk hT
  clear hT
  go_enter Try.func23, Try.ntmps23
  go_upto_region 0 with fail
  have n1_ := Aside0.mk (below_drew1 HB.out)
  have n2_ := Aside0.mk (blk_drew BS.out)
  have n3_ := Aside0.mk (blk_drew B4.out)
  have n4_ := Aside0.mk (blk_drew BC.out)
  have n5_ := Aside0.mk (blk_drew BT.out)
  have n6_ := Aside0.mk (Kd.R_drew O_d.out)
  have n7_ := Aside0.mk (Kd.R_drew O_t.out)
  have n8_ := Aside0.mk (Kd.R_drew O_c.out)
  clear HB BS B4 BC BT O_d O_t O_c
  have HB := n1_
  have BS := n2_
  have B4 := n3_
  have BC := n4_
  have BT := n5_
  have O_d := n6_
  have O_t := n7_
  have O_c := n8_
  clear n1_ n2_ n3_ n4_ n5_ n6_ n7_ n8_
  (try simp only [Act.put, List.setIfInBounds_toArray, List.set_cons_zero, List.set_cons_succ])
  refine start_ (n := 13) (S := fun w' => w'.cell? ⟨g, 0, none⟩ = some (.int .u64 b) ∧ w'.cell? ⟨g, 1, none⟩ = some (.slice B1 d.length q1) ∧ w'.cell? ⟨g, 2, none⟩ = some (.slice B2 t.length q2) ∧ w'.cell? ⟨g, 3, none⟩ = some (.slice B3 c.length q3) ∧ w'.cell? ⟨g, 4, none⟩ = some (.bool fin) ∧ w'.cell? ⟨g, 5, none⟩ = some (.bool ft) ∧ w'.cell? ⟨g, 6, none⟩ = some (.bool fc) ∧ w'.cell? ⟨gc, 0, none⟩ = some (.int .u64 off) ∧ w'.cell? ⟨gc, 1, none⟩ = some (vd) ∧ w'.cell? ⟨gc, 2, none⟩ = some (.bool cf) ∧ w'.cell? ⟨gt, 0, none⟩ = some (.int .u64 tz)) (ds := [12]) #[false, false, false, false, false, false, false, false, false, false, false, false, false] (by kernel_rfl) rfl rfl ⟨(blk_cell BS.out 0).trans rfl, (blk_cell BS.out 1).trans rfl, (blk_cell BS.out 2).trans rfl, (blk_cell BS.out 3).trans rfl, (blk_cell BS.out 4).trans rfl, (blk_cell BS.out 5).trans rfl, (blk_cell BS.out 6).trans rfl, (blk_cell BC.out 0).trans rfl, (blk_cell BC.out 1).trans rfl, (blk_cell BC.out 2).trans rfl, (blk_cell BT.out 0).trans rfl⟩ (fun hHeld => ?_)
  generalize W.drew = w5 at HB BS B4 BC BT O_d O_t O_c hHeld ⊢
  refine pure_ (i := 0) (N := some 4) (v := ?_) (a' := ?_) #[true, false, false, false, false, false, false, false, false, false, false, false, false] rfl rfl (by kernel_rfl) (fun _ _ _ h => h) (Or.inl ⟨by rfl, ?_⟩) ?_ ?_
  rotate_left
  · intro w'
    go_simp
    with_reducible rfl
  rotate_left
  · simp only [Act.put, List.setIfInBounds_toArray, List.set_cons_zero, List.set_cons_succ, i64_w, i32_w]
    rfl
  refine pure_ (i := 1) (N := some 5) (v := ?_) (a' := ?_) #[true, true, false, false, false, false, false, false, false, false, false, false, false] rfl rfl (by kernel_rfl) (fun _ _ _ h => h) (Or.inl ⟨by rfl, ?_⟩) ?_ ?_
  rotate_left
  · intro w'
    go_simp
    with_reducible rfl
  rotate_left
  · simp only [Act.put, List.setIfInBounds_toArray, List.set_cons_zero, List.set_cons_succ, i64_w, i32_w]
    rfl
  refine pure_ (i := 2) (N := some 6) (v := ?_) (a' := ?_) #[true, true, true, false, false, false, false, false, false, false, false, false, false] rfl rfl (by kernel_rfl) (fun _ _ _ h => h) (Or.inl ⟨by rfl, ?_⟩) ?_ ?_
  rotate_left
  · intro w'
    go_simp
    with_reducible rfl
  rotate_left
  · simp only [Act.put, List.setIfInBounds_toArray, List.set_cons_zero, List.set_cons_succ, i64_w, i32_w]
    rfl
  refine pure_ (i := 3) (N := some 7) (v := ?_) (a' := ?_) #[true, true, true, true, false, false, false, false, false, false, false, false, false] rfl rfl (by kernel_rfl) (fun _ _ _ h => h) (Or.inl ⟨by rfl, ?_⟩) ?_ ?_
  rotate_left
  · intro w'
    go_simp
    with_reducible rfl
  rotate_left
  · simp only [Act.put, List.setIfInBounds_toArray, List.set_cons_zero, List.set_cons_succ, i64_w, i32_w]
    rfl
  refine pure_ (i := 5) (N := some 9) (v := ?_) (a' := ?_) #[true, true, true, true, false, true, false, false, false, false, false, false, false] rfl rfl (by kernel_rfl) (fun _ _ _ h => h) (Or.inl ⟨by rfl, ?_⟩) ?_ ?_
  rotate_left
  · intro w'
    go_simp
    with_reducible rfl
  rotate_left
  · simp only [Act.put, List.setIfInBounds_toArray, List.set_cons_zero, List.set_cons_succ, i64_w, i32_w]
    rfl
  refine take_ (i := 4) (N := some 8) (v := ?_) (a' := ?_) #[true, true, true, true, true, true, false, false, false, false, false, false, false] rfl rfl (by kernel_rfl) (fun _ _ _ h => h) (Or.inl ⟨by rfl, ?_⟩) hHeld ?_ ?_
  rotate_left
  · rintro w' ⟨s0, s1, s2, s3, s4, s5, s6, s7, s8, s9, s10⟩
    go_simp
    with_reducible rfl
  rotate_left
  · simp only [Act.put, List.setIfInBounds_toArray, List.set_cons_zero, List.set_cons_succ, i64_w, i32_w]
    rfl
  refine take_ (i := 6) (N := some 10) (v := ?_) (a' := ?_) #[true, true, true, true, true, true, true, false, false, false, false, false, false] rfl rfl (by kernel_rfl) (fun _ _ _ h => h) (Or.inl ⟨by rfl, ?_⟩) hHeld ?_ ?_
  rotate_left
  · rintro w' ⟨s0, s1, s2, s3, s4, s5, s6, s7, s8, s9, s10⟩
    go_simp
    with_reducible rfl
  rotate_left
  · simp only [Act.put, List.setIfInBounds_toArray, List.set_cons_zero, List.set_cons_succ, i64_w, i32_w]
    rfl
  refine take_ (i := 7) (N := some 11) (v := ?_) (a' := ?_) #[true, true, true, true, true, true, true, true, false, false, false, false, false] rfl rfl (by kernel_rfl) (fun _ _ _ h => h) (Or.inl ⟨by rfl, ?_⟩) hHeld ?_ ?_
  rotate_left
  · rintro w' ⟨s0, s1, s2, s3, s4, s5, s6, s7, s8, s9, s10⟩
    go_simp
    with_reducible rfl
  rotate_left
  · simp only [Act.put, List.setIfInBounds_toArray, List.set_cons_zero, List.set_cons_succ, i64_w, i32_w]
    rfl
  refine pure_ (i := 8) (N := some 12) (v := ?_) (a' := ?_) #[true, true, true, true, true, true, true, true, true, false, false, false, false] rfl rfl (by kernel_rfl) (fun _ _ _ h => h) (Or.inl ⟨by rfl, ?_⟩) ?_ ?_
  rotate_left
  · intro w'
    go_simp
    with_reducible rfl
  rotate_left
  · simp only [Act.put, List.setIfInBounds_toArray, List.set_cons_zero, List.set_cons_succ, i64_w, i32_w]
    rfl
  refine one_ (i := 9) (N := some 13) #[true, true, true, true, true, true, true, true, true, true, false, false, false] rfl rfl (by kernel_rfl) (by decide) (fun K hK => ?_)
  refine goes_ Try.func24 (by kernel_rfl) rfl #[.slice B2 t.length q2, .agg #[.int .u64 off, .int .u64 tz]] (by rfl) rfl rfl (by (try simp only [List.map_toArray, List.map_cons, List.map_nil]); first | done | rfl) ?_
  refine (span_Cut.calls B2 q2 t off tz t2 _ (Kd.R_reads' O_t.out).2.2 (Kd.R_reads' O_t.out).2.1 HT.out).mono ?_
  rintro e_ w6 ⟨u_, rfl, ho, hb⟩
  refine ⟨_, rfl, ?_⟩
  have O_t2 := Aside0.mk (Kd.R_lower ho HB.out.size)
  clear ho
  have n9_ := Aside0.mk (below_step HB.out hb)
  have n10_ := Aside0.mk (blk_below BS.out hb)
  have n11_ := Aside0.mk (blk_below B4.out hb)
  have n12_ := Aside0.mk (blk_below BC.out hb)
  have n13_ := Aside0.mk (blk_below BT.out hb)
  have n14_ := Aside0.mk (Kd.R_below O_d.out hb)
  have n15_ := Aside0.mk (Kd.R_below O_t.out hb)
  have n16_ := Aside0.mk (Kd.R_below O_c.out hb)
  clear HB BS B4 BC BT O_d O_t O_c
  have HB := n9_
  have BS := n10_
  have B4 := n11_
  have BC := n12_
  have BT := n13_
  have O_d := n14_
  have O_t := n15_
  have O_c := n16_
  clear n9_ n10_ n11_ n12_ n13_ n14_ n15_ n16_
  clear hb
  obtain ⟨D2, p2, eo⟩ := Kd.R_slice O_t2.out
  subst eo
  obtain ⟨hx_g_0, hf_g_0, hx_g_1, hf_g_1, hx_g_2, hf_g_2, hx_g_3, hf_g_3, hx_g_4, hf_g_4, hx_g_5, hf_g_5, hx_g_6, hf_g_6⟩ := cells7 BS.out
  refine hK.out _ _ ⟨(blk_cell BS.out 0).trans rfl, (blk_cell BS.out 1).trans rfl, (blk_cell BS.out 2).trans rfl, (blk_cell BS.out 3).trans rfl, (blk_cell BS.out 4).trans rfl, (blk_cell BS.out 5).trans rfl, (blk_cell BS.out 6).trans rfl, (blk_cell BC.out 0).trans rfl, (blk_cell BC.out 1).trans rfl, (blk_cell BC.out 2).trans rfl, (blk_cell BT.out 0).trans rfl⟩ (fun hHeld => ?_)
  clear hK K
  refine norm_ (a' := ?_) ?_ ?_
  rotate_left
  · show Act.put _ (some 13) _ = _
    simp only [Act.put, List.setIfInBounds_toArray, List.set_cons_zero, List.set_cons_succ, i64_w, i32_w]
    rfl
  refine pure_ (i := 10) (N := some 14) (v := ?_) (a' := ?_) #[true, true, true, true, true, true, true, true, true, true, true, false, false] rfl rfl (by kernel_rfl) (fun _ _ _ h => h) (Or.inl ⟨by rfl, ?_⟩) ?_ ?_
  rotate_left
  · intro w'
    go_simp
    with_reducible rfl
  rotate_left
  · simp only [Act.put, List.setIfInBounds_toArray, List.set_cons_zero, List.set_cons_succ, i64_w, i32_w]
    rfl
  refine pure_ (i := 11) (N := some 15) (v := ?_) (a' := ?_) #[true, true, true, true, true, true, true, true, true, true, true, true, false] rfl rfl (by kernel_rfl) (fun _ _ _ h => h) (Or.inl ⟨by rfl, ?_⟩) ?_ ?_
  rotate_left
  · intro w'
    go_simp
    with_reducible rfl
  rotate_left
  · simp only [Act.put, List.setIfInBounds_toArray, List.set_cons_zero, List.set_cons_succ, i64_w, i32_w]
    rfl
  refine last_ (i := 12) (N := none) #[true, true, true, true, true, true, true, true, true, true, true, true, true] rfl rfl (by kernel_rfl) (by decide) (fun K hK => ?_)
  refine skip_ (w1 := ?_) (by rfl) rfl ?_ ?_
  rotate_left
  · go_simp
    rfl
  refine hK.out _ _ ?_
  clear hK K
  refine done_ (by kernel_rfl) ?_
  clear O_t
  clear hx_g_0 hf_g_0 hx_g_1 hf_g_1 hx_g_2 hf_g_2 hx_g_3 hf_g_3 hx_g_4 hf_g_4 hx_g_5 hf_g_5 hx_g_6 hf_g_6
  have n17_ : Aside0 ((w6.setCell ⟨g, 2, none⟩ (.slice D2 t2.length p2)).heap[g]? = some (.cells #[.int .u64 b, .slice B1 d.length q1, .slice D2 t2.length p2, .slice B3 c.length q3, .bool fin, .bool ft, .bool fc] 27 (0, 0))) := ⟨blk_put (BS.out) 2 (.slice D2 t2.length p2) (cs' := #[.int .u64 b, .slice B1 d.length q1, .slice D2 t2.length p2, .slice B3 c.length q3, .bool fin, .bool ft, .bool fc]) rfl⟩
  have n18_ : Aside0 ((w6.setCell ⟨g, 2, none⟩ (.slice D2 t2.length p2)).heap[g4]? = some (.cells cs4 27 (0, 0))) := ⟨blk_far (p := ⟨g, 2, none⟩) (B4.out) hne.symm (.slice D2 t2.length p2)⟩
  have n19_ : Aside0 ((w6.setCell ⟨g, 2, none⟩ (.slice D2 t2.length p2)).heap[gc]? = some (.cells #[.int .u64 off, vd, .bool cf] 32 (0, 0))) := ⟨blk_far (p := ⟨g, 2, none⟩) (BC.out) NE_gc (.slice D2 t2.length p2)⟩
  have n20_ : Aside0 ((w6.setCell ⟨g, 2, none⟩ (.slice D2 t2.length p2)).heap[gt]? = some (.cells #[.int .u64 tz] 24 (0, 0))) := ⟨blk_far (p := ⟨g, 2, none⟩) (BT.out) NE_gt (.slice D2 t2.length p2)⟩
  have n21_ : Aside0 (Kd.R (Kd.int .u8) 5 (w6.setCell ⟨g, 2, none⟩ (.slice D2 t2.length p2)) w0.heap.size (fun _ => True) (.slice B1 d.length q1) (d)) := ⟨Kd.R_mono (Kd.R_far (p := ⟨g, 2, none⟩) (Kd.R_types O_d.out BS.out (ne_of rfl (by decide))) (fun _ hk => hk.2) (.slice D2 t2.length p2)) (fun _ _ => trivial)⟩
  have n22_ : Aside0 (Kd.R k37 37 (w6.setCell ⟨g, 2, none⟩ (.slice D2 t2.length p2)) w0.heap.size (fun _ => True) (.slice B3 c.length q3) (c)) := ⟨Kd.R_mono (Kd.R_far (p := ⟨g, 2, none⟩) (Kd.R_types O_c.out BS.out (ne_of rfl (by decide))) (fun _ hk => hk.2) (.slice D2 t2.length p2)) (fun _ _ => trivial)⟩
  have n23_ : Aside0 (Kd.R k37 37 (w6.setCell ⟨g, 2, none⟩ (.slice D2 t2.length p2)) w0.heap.size (fun _ => True) (.slice D2 t2.length p2) (t2)) := ⟨Kd.R_mono (Kd.R_far (p := ⟨g, 2, none⟩) (Kd.R_types O_t2.out BS.out (ne_of rfl (by decide))) (fun _ hk => hk.2) (.slice D2 t2.length p2)) (fun _ _ => trivial)⟩
  have n24_ : Aside0 (Below w0.heap.size w0 (w6.setCell ⟨g, 2, none⟩ (.slice D2 t2.length p2))) := ⟨below_set (HB.out) GE.out (j := 2) (v := .slice D2 t2.length p2)⟩
  clear BS B4 BC BT O_d O_c O_t2 HB
  have BS := n17_
  have B4 := n18_
  have BC := n19_
  have BT := n20_
  have O_d := n21_
  have O_c := n22_
  have O_t2 := n23_
  have HB := n24_
  clear n17_ n18_ n19_ n20_ n21_ n22_ n23_ n24_
  generalize (w6.setCell ⟨g, 2, none⟩ (.slice D2 t2.length p2)) = w7 at BS B4 BC BT O_d O_c O_t2 HB ⊢
  cases ft with
  | false =>
    cases cf with
    | false =>
      obtain ⟨hx_g_0, hf_g_0, hx_g_1, hf_g_1, hx_g_2, hf_g_2, hx_g_3, hf_g_3, hx_g_4, hf_g_4, hx_g_5, hf_g_5, hx_g_6, hf_g_6⟩ := cells7 BS.out
      obtain ⟨hx_gc_0, hf_gc_0, hx_gc_1, hf_gc_1, hx_gc_2, hf_gc_2⟩ := cells3 BC.out
      go_wp2
      first | go_end0 | ((try simp only [Exit.inBlock, Exit.then]); refine bodyPost_ret (results_none rfl _ _ _) rfl ?_)
      exact ⟨rfl, _, blk_put (BS.out) 5 (.bool false) (cs' := #[.int .u64 b, .slice B1 d.length q1, .slice D2 t2.length p2, .slice B3 c.length q3, .bool fin, .bool false, .bool fc]) rfl, blk_far (p := ⟨g, 5, none⟩) (B4.out) hne.symm (.bool false), Kd.R_mono (Kd.R_far (p := ⟨g, 5, none⟩) (Kd.R_types O_d.out BS.out (ne_of rfl (by decide))) (fun _ hk => hk.2) (.bool false)) (fun _ _ => trivial), Kd.R_mono (Kd.R_far (p := ⟨g, 5, none⟩) (Kd.R_types O_t2.out BS.out (ne_of rfl (by decide))) (fun _ hk => hk.2) (.bool false)) (fun _ _ => trivial), Kd.R_mono (Kd.R_far (p := ⟨g, 5, none⟩) (Kd.R_types O_c.out BS.out (ne_of rfl (by decide))) (fun _ hk => hk.2) (.bool false)) (fun _ _ => trivial), below_set (HB.out) GE.out (j := 5) (v := .bool false)⟩
    | true =>
      obtain ⟨hx_g_0, hf_g_0, hx_g_1, hf_g_1, hx_g_2, hf_g_2, hx_g_3, hf_g_3, hx_g_4, hf_g_4, hx_g_5, hf_g_5, hx_g_6, hf_g_6⟩ := cells7 BS.out
      obtain ⟨hx_gc_0, hf_gc_0, hx_gc_1, hf_gc_1, hx_gc_2, hf_gc_2⟩ := cells3 BC.out
      go_wp2
      first | go_end0 | ((try simp only [Exit.inBlock, Exit.then]); refine bodyPost_ret (results_none rfl _ _ _) rfl ?_)
      exact ⟨rfl, _, blk_put (BS.out) 5 (.bool false) (cs' := #[.int .u64 b, .slice B1 d.length q1, .slice D2 t2.length p2, .slice B3 c.length q3, .bool fin, .bool false, .bool fc]) rfl, blk_far (p := ⟨g, 5, none⟩) (B4.out) hne.symm (.bool false), Kd.R_mono (Kd.R_far (p := ⟨g, 5, none⟩) (Kd.R_types O_d.out BS.out (ne_of rfl (by decide))) (fun _ hk => hk.2) (.bool false)) (fun _ _ => trivial), Kd.R_mono (Kd.R_far (p := ⟨g, 5, none⟩) (Kd.R_types O_t2.out BS.out (ne_of rfl (by decide))) (fun _ hk => hk.2) (.bool false)) (fun _ _ => trivial), Kd.R_mono (Kd.R_far (p := ⟨g, 5, none⟩) (Kd.R_types O_c.out BS.out (ne_of rfl (by decide))) (fun _ hk => hk.2) (.bool false)) (fun _ _ => trivial), below_set (HB.out) GE.out (j := 5) (v := .bool false)⟩
  | true =>
    cases cf with
    | false =>
      obtain ⟨hx_g_0, hf_g_0, hx_g_1, hf_g_1, hx_g_2, hf_g_2, hx_g_3, hf_g_3, hx_g_4, hf_g_4, hx_g_5, hf_g_5, hx_g_6, hf_g_6⟩ := cells7 BS.out
      obtain ⟨hx_gc_0, hf_gc_0, hx_gc_1, hf_gc_1, hx_gc_2, hf_gc_2⟩ := cells3 BC.out
      go_wp2
      first | go_end0 | ((try simp only [Exit.inBlock, Exit.then]); refine bodyPost_ret (results_none rfl _ _ _) rfl ?_)
      exact ⟨rfl, _, blk_put (BS.out) 5 (.bool true) (cs' := #[.int .u64 b, .slice B1 d.length q1, .slice D2 t2.length p2, .slice B3 c.length q3, .bool fin, .bool true, .bool fc]) rfl, blk_far (p := ⟨g, 5, none⟩) (B4.out) hne.symm (.bool true), Kd.R_mono (Kd.R_far (p := ⟨g, 5, none⟩) (Kd.R_types O_d.out BS.out (ne_of rfl (by decide))) (fun _ hk => hk.2) (.bool true)) (fun _ _ => trivial), Kd.R_mono (Kd.R_far (p := ⟨g, 5, none⟩) (Kd.R_types O_t2.out BS.out (ne_of rfl (by decide))) (fun _ hk => hk.2) (.bool true)) (fun _ _ => trivial), Kd.R_mono (Kd.R_far (p := ⟨g, 5, none⟩) (Kd.R_types O_c.out BS.out (ne_of rfl (by decide))) (fun _ hk => hk.2) (.bool true)) (fun _ _ => trivial), below_set (HB.out) GE.out (j := 5) (v := .bool true)⟩
    | true =>
      obtain ⟨hx_g_0, hf_g_0, hx_g_1, hf_g_1, hx_g_2, hf_g_2, hx_g_3, hf_g_3, hx_g_4, hf_g_4, hx_g_5, hf_g_5, hx_g_6, hf_g_6⟩ := cells7 BS.out
      obtain ⟨hx_gc_0, hf_gc_0, hx_gc_1, hf_gc_1, hx_gc_2, hf_gc_2⟩ := cells3 BC.out
      go_wp2
      first | go_end0 | ((try simp only [Exit.inBlock, Exit.then]); refine bodyPost_ret (results_none rfl _ _ _) rfl ?_)
      exact ⟨rfl, _, blk_put (BS.out) 5 (.bool false) (cs' := #[.int .u64 b, .slice B1 d.length q1, .slice D2 t2.length p2, .slice B3 c.length q3, .bool fin, .bool false, .bool fc]) rfl, blk_far (p := ⟨g, 5, none⟩) (B4.out) hne.symm (.bool false), Kd.R_mono (Kd.R_far (p := ⟨g, 5, none⟩) (Kd.R_types O_d.out BS.out (ne_of rfl (by decide))) (fun _ hk => hk.2) (.bool false)) (fun _ _ => trivial), Kd.R_mono (Kd.R_far (p := ⟨g, 5, none⟩) (Kd.R_types O_t2.out BS.out (ne_of rfl (by decide))) (fun _ hk => hk.2) (.bool false)) (fun _ _ => trivial), Kd.R_mono (Kd.R_far (p := ⟨g, 5, none⟩) (Kd.R_types O_c.out BS.out (ne_of rfl (by decide))) (fun _ hk => hk.2) (.bool false)) (fun _ _ => trivial), below_set (HB.out) GE.out (j := 5) (v := .bool false)⟩

-- NOT PRINTED: function 19 (supply_changed_23)

end Go.Proofs.Ytadhkamocbhbmaa.P
