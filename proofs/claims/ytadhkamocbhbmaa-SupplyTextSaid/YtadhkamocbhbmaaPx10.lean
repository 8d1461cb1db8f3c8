-- Printed for this claim by xprint.py of this session: contracts of this session's own stand in for what the print does not take
import Derived.Test.YtadhkamocbhbmaaPx0
import Derived.Test.YtadhkamocbhbmaaPx2
namespace Go.Proofs.Ytadhkamocbhbmaa.P
open Go.RowKit Go.Proofs.YtadhkamocbhbmaaW.PrintWords Go.Proofs.YtadhkamocbhbmaaW.PrintLast Go.Proofs.YtadhkamocbhbmaaW.PrintMore
attribute [local go_sem] max2_int min2_int max_two min_two max_three min_three max_four min_four   -- for this text's walks alone
set_option linter.unusedVariables false
set_option linter.unusedSimpArgs false

/-! ### supply_places: function 26 -/
/-- A chunk's places that are below the end, and not below the base. -/
def supply_places.f (b off e : Int) (n : Nat) : Int × Int := if e ≤ off then (0, 0) else (mx off b, mn e (IntKind.u64.wrap (off + IntKind.u64.wrap (n : Int))))
set_option maxHeartbeats 8000000 in
set_option maxRecDepth 100000 in
theorem supply_places.hand (b : Int) (d : List Int) (t c : List S37) (B1 : Option Addr) (q1 : Nat) (B2 : Option Addr) (q2 : Nat) (B3 : Option Addr) (q3 : Nat) (fin ft fc : Bool) (g : Nat) (off : Int) (Ac : Option Addr) (cc : Nat) (cl : List Int) (cf : Bool) (e p0 p1 : Int) (W : World)
    (hb : W.heap[g]? = some (.cells #[.int .u64 b, .slice B1 d.length q1, .slice B2 t.length q2, .slice B3 c.length q3, .bool fin, .bool ft, .bool fc] 27 (0, 0))) (C1 : Kd.C (Kd.int .u8) W B1 d.length d) (hc1 : d.length ≤ q1) (C2 : Kd.C k37 W B2 t.length t) (hc2 : t.length ≤ q2) (C3 : Kd.C k37 W B3 c.length c) (hc3 : c.length ≤ q3) (hE : IntKind.u64.wrap (b + IntKind.u64.wrap (d.length : Int)) = e) (hP : supply_places.f b off e cl.length = (p0, p1)) :
    Calls Try.prog 26 #[.pointer (some ⟨g, 0, none⟩), .agg #[.int .u64 off, .slice Ac cl.length cc, .bool cf]] W fun e_ W2 => e_ = .returned (.agg #[.int .u64 p0, .int .u64 p1]) ∧ Below W.heap.size W W2 := by
  have BS := Aside0.mk hb
  have H1 := Aside0.mk C1
  have H2 := Aside0.mk C2
  have H3 := Aside0.mk C3
  have K1 := Aside0.mk hc1
  have K2 := Aside0.mk hc2
  have K3 := Aside0.mk hc3
  have HE := Aside0.mk hE
  have HP := Aside0.mk hP
  have HB := Aside0.mk (Below.refl W.heap.size W)
  clear hb C1 C2 C3 hc1 hc2 hc3 hE hP
  go_enter Try.func26, Try.ntmps26
  go_upto_region 2 with (first
    | ((with_reducible refine gate_dst (N := 3) rfl ?_); refine box_event ?hg (N := 3) ?hd (cs := #[.int .u64 off, .slice Ac cl.length cc, .bool cf]) (t := 32) ?hr ?_; (case hd => rfl); (case hg => rfl); (case hr => first | (go_simp; done) | (go_simp; rfl)); intro g3 hg w3 hbox hb; have GE_g3 := Aside0.mk (show W.heap.size ≤ g3 by rw [hg]; exact HB.out.size); have NB_g_g3 : g ≠ g3 := (by rw [hg]; exact Nat.ne_of_lt (blk_lt BS.out)); have NB_g3_g := NB_g_g3.symm; have n1_ := Aside0.mk (below_step HB.out hb); have n2_ := Aside0.mk (blk_below BS.out hb); clear HB BS; have HB := n1_; have BS := n2_; clear n1_ n2_; have BK_g3 := Aside0.mk hbox; clear hbox hb hg)
    | ((with_reducible refine gate_dst (N := 4) rfl ?_); refine box_event ?hg (N := 4) ?hd (cs := #[.int .u64 0, .int .u64 0]) (t := 37) ?hr ?_; (case hd => rfl); (case hg => rfl); (case hr => first | (go_simp; done) | (go_simp; rfl)); intro g4 hg w4 hbox hb; have GE_g4 := Aside0.mk (show W.heap.size ≤ g4 by rw [hg]; exact HB.out.size); have NB_g_g4 : g ≠ g4 := (by rw [hg]; exact Nat.ne_of_lt (blk_lt BS.out)); have NB_g4_g := NB_g_g4.symm; have NB_g3_g4 : g3 ≠ g4 := (by rw [hg]; exact Nat.ne_of_lt (blk_lt BK_g3.out)); have NB_g4_g3 := NB_g3_g4.symm; have n3_ := Aside0.mk (below_step HB.out hb); have n4_ := Aside0.mk (blk_below BS.out hb); have n5_ := Aside0.mk (blk_below BK_g3.out hb); clear HB BS BK_g3; have HB := n3_; have BS := n4_; have BK_g3 := n5_; clear n3_ n4_ n5_; have BK_g4 := Aside0.mk hbox; clear hbox hb hg; obtain ⟨hx_g_0, hf_g_0, hx_g_1, hf_g_1, hx_g_2, hf_g_2, hx_g_3, hf_g_3, hx_g_4, hf_g_4, hx_g_5, hf_g_5, hx_g_6, hf_g_6⟩ := cells7 BS.out; obtain ⟨hx_g3_0, hf_g3_0, hx_g3_1, hf_g3_1, hx_g3_2, hf_g3_2⟩ := cells3 BK_g3.out)
    | ((with_reducible refine gate_callee (f := 15) rfl ?_); refine goesL_ (some 9) rfl rfl Try.func15 (by kernel_rfl) rfl #[.agg #[.int .u64 b, .slice B1 d.length q1, .slice B2 t.length q2, .slice B3 c.length q3, .bool fin, .bool ft, .bool fc]] rfl (by (try simp only [List.map_toArray, List.map_cons, List.map_nil]); first | done | rfl) ?_; refine (supply_End.calls b _ _ d _ _ t _ _ c fin ft fc e _ (Kd.C_below H1.out HB.out) K1.out (Kd.C_below H2.out HB.out) K2.out (Kd.C_below H3.out HB.out) K3.out (by unfold supply_End.f; rw [HE.out])).mono ?_; rintro e_ w5 ⟨rfl, hb⟩; refine ⟨_, rfl, ?_⟩; clear hx_g_0 hf_g_0 hx_g_1 hf_g_1 hx_g_2 hf_g_2 hx_g_3 hf_g_3 hx_g_4 hf_g_4 hx_g_5 hf_g_5 hx_g_6 hf_g_6 hx_g3_0 hf_g3_0 hx_g3_1 hf_g3_1 hx_g3_2 hf_g3_2; have n6_ := Aside0.mk (below_step HB.out hb); have n7_ := Aside0.mk (blk_below BS.out hb); have n8_ := Aside0.mk (blk_below BK_g3.out hb); have n9_ := Aside0.mk (blk_below BK_g4.out hb); clear HB BS BK_g3 BK_g4; have HB := n6_; have BS := n7_; have BK_g3 := n8_; have BK_g4 := n9_; clear n6_ n7_ n8_ n9_; clear hb; obtain ⟨hx_g_0, hf_g_0, hx_g_1, hf_g_1, hx_g_2, hf_g_2, hx_g_3, hf_g_3, hx_g_4, hf_g_4, hx_g_5, hf_g_5, hx_g_6, hf_g_6⟩ := cells7 BS.out; obtain ⟨hx_g3_0, hf_g3_0, hx_g3_1, hf_g3_1, hx_g3_2, hf_g3_2⟩ := cells3 BK_g3.out; obtain ⟨hx_g4_0, hf_g4_0, hx_g4_1, hf_g4_1⟩ := cells2 BK_g4.out))
  by_cases c_ : e ≤ off
  · have cb : decide (e ≤ off) = true := decide_eq_true c_
    have hp := HP.out
    unfold supply_places.f at hp
    rw [if_pos c_] at hp
    injection hp with hp0 hp1
    subst hp0 hp1
    clear c_
    go_wp2
    refine bodyPost_ret (results_cell_row rfl _ _ g4 37 #[.int .u64 0, .int .u64 0] (0, 0) _ rfl (blk_put (blk_put (BK_g4.out) 0 (.int .u64 0) (cs' := #[.int .u64 0, .int .u64 0]) rfl) 1 (.int .u64 0) (cs' := #[.int .u64 0, .int .u64 0]) rfl) Try.underlying37 rfl (by kernel_rfl)) rfl ?_
    exact ⟨rfl, below_set (below_set (HB.out) GE_g4.out (j := 0) (v := .int .u64 0)) GE_g4.out (j := 1) (v := .int .u64 0)⟩
  · have cb : decide (e ≤ off) = false := decide_eq_false c_
    have hp := HP.out
    unfold supply_places.f at hp
    rw [if_neg c_] at hp
    injection hp with hp0 hp1
    have hp0_ : (if off < b then b else off) = p0 := hp0
    obtain ⟨m, hm⟩ : ∃ m : Int, IntKind.u64.wrap (off + IntKind.u64.wrap (cl.length : Int)) = m := ⟨_, rfl⟩
    rw [hm] at hp1
    have hp1_ : (if m < e then m else e) = p1 := hp1
    clear c_ HP
    go_upto_region 4 with fail
    go_region
    clear hx_g_0 hf_g_0 hx_g_1 hf_g_1 hx_g_2 hf_g_2 hx_g_3 hf_g_3 hx_g_4 hf_g_4 hx_g_5 hf_g_5 hx_g_6 hf_g_6 hx_g3_0 hf_g3_0 hx_g3_1 hf_g3_1 hx_g3_2 hf_g3_2 hx_g4_0 hf_g4_0 hx_g4_1 hf_g4_1
    have n10_ : Aside0 (((w5.setCell ⟨g4, 0, none⟩ (.int .u64 p0)).setCell ⟨g4, 1, none⟩ (.int .u64 p1)).heap[g4]? = some (.cells #[.int .u64 p0, .int .u64 p1] 37 (0, 0))) := ⟨blk_put (blk_put (BK_g4.out) 0 (.int .u64 p0) (cs' := #[.int .u64 p0, .int .u64 0]) rfl) 1 (.int .u64 p1) (cs' := #[.int .u64 p0, .int .u64 p1]) rfl⟩
    have n11_ : Aside0 (((w5.setCell ⟨g4, 0, none⟩ (.int .u64 p0)).setCell ⟨g4, 1, none⟩ (.int .u64 p1)).heap[g]? = some (.cells #[.int .u64 b, .slice B1 d.length q1, .slice B2 t.length q2, .slice B3 c.length q3, .bool fin, .bool ft, .bool fc] 27 (0, 0))) := ⟨blk_far (p := ⟨g4, 1, none⟩) (blk_far (p := ⟨g4, 0, none⟩) (BS.out) NB_g_g4 (.int .u64 p0)) NB_g_g4 (.int .u64 p1)⟩
    have n12_ : Aside0 (((w5.setCell ⟨g4, 0, none⟩ (.int .u64 p0)).setCell ⟨g4, 1, none⟩ (.int .u64 p1)).heap[g3]? = some (.cells #[.int .u64 off, .slice Ac cl.length cc, .bool cf] 32 (0, 0))) := ⟨blk_far (p := ⟨g4, 1, none⟩) (blk_far (p := ⟨g4, 0, none⟩) (BK_g3.out) NB_g3_g4 (.int .u64 p0)) NB_g3_g4 (.int .u64 p1)⟩
    have n13_ : Aside0 (Below W.heap.size W ((w5.setCell ⟨g4, 0, none⟩ (.int .u64 p0)).setCell ⟨g4, 1, none⟩ (.int .u64 p1))) := ⟨below_set (below_set (HB.out) GE_g4.out (j := 0) (v := .int .u64 p0)) GE_g4.out (j := 1) (v := .int .u64 p1)⟩
    clear BK_g4 BS BK_g3 HB
    have BK_g4 := n10_
    have BS := n11_
    have BK_g3 := n12_
    have HB := n13_
    clear n10_ n11_ n12_ n13_
    generalize ((w5.setCell ⟨g4, 0, none⟩ (.int .u64 p0)).setCell ⟨g4, 1, none⟩ (.int .u64 p1)) = w7 at BK_g4 BS BK_g3 HB ⊢
    have n14_ := Aside0.mk (below_drew1 HB.out)
    have n15_ := Aside0.mk (blk_drew BS.out)
    have n16_ := Aside0.mk (blk_drew BK_g3.out)
    have n17_ := Aside0.mk (blk_drew BK_g4.out)
    clear HB BS BK_g3 BK_g4
    have HB := n14_
    have BS := n15_
    have BK_g3 := n16_
    have BK_g4 := n17_
    clear n14_ n15_ n16_ n17_
    generalize w7.drew = w8 at HB BS BK_g3 BK_g4 ⊢
    go_wp2
    refine bodyPost_ret (results_cell_row rfl _ _ g4 37 #[.int .u64 p0, .int .u64 p1] (0, 0) _ rfl (BK_g4.out) Try.underlying37 rfl (by kernel_rfl)) rfl ?_
    exact ⟨rfl, HB.out⟩

end Go.Proofs.Ytadhkamocbhbmaa.P
