-- Printed for this claim by xprint.py of this session: contracts of this session's own stand in for what the print does not take
import Derived.Test.YtgaccappklhojaaPx0
namespace Go.Proofs.Ytgaccappklhojaa.P
open Go.RowKit Go.Proofs.YtgaccappklhojaaW.PrintWords Go.Proofs.YtgaccappklhojaaW.PrintLast Go.Proofs.YtgaccappklhojaaW.PrintMore
attribute [local go_sem] max2_int min2_int max_two min_two max_three min_three max_four min_four   -- for this text's walks alone
set_option linter.unusedVariables false
set_option linter.unusedSimpArgs false

/-! ### wigwagref07_Last: function 24 -/
def wigwagref07_Last.f (l0 : List (S25)) (a1 : Int) : Option ((List (S25))):=if a1 < 0 then (if 0 > (l0.length : Int) then ((some (([] : List (S25)) : List (S25))).bind fun y423 => (if 0 ≤ (l0.length : Int) then ((some (l0.drop 0 : List (S25))).bind fun y426 => (if y423.length + y426.length < 8796093022208 then (some (y423 ++ y426)) else (none))) else (none))) else ((some (([] : List (S25)) : List (S25))).bind fun y433 => (if 0 ≤ (wrap64 ((l0.length : Int))) then (if (wrap64 ((l0.length : Int))) ≤ (l0.length : Int) then ((some (l0.drop ((wrap64 ((l0.length : Int))) : Int).toNat : List (S25))).bind fun y436 => (if y433.length + y436.length < 8796093022208 then (some (y433 ++ y436)) else (none))) else (none)) else (none)))) else (if a1 > (l0.length : Int) then ((some (([] : List (S25)) : List (S25))).bind fun y443 => (if 0 ≤ (l0.length : Int) then ((some (l0.drop 0 : List (S25))).bind fun y446 => (if y443.length + y446.length < 8796093022208 then (some (y443 ++ y446)) else (none))) else (none))) else ((some (([] : List (S25)) : List (S25))).bind fun y453 => (if 0 ≤ (wrap64 ((l0.length : Int) - a1)) then (if (wrap64 ((l0.length : Int) - a1)) ≤ (l0.length : Int) then ((some (l0.drop ((wrap64 ((l0.length : Int) - a1)) : Int).toNat : List (S25))).bind fun y456 => (if y453.length + y456.length < 8796093022208 then (some (y453 ++ y456)) else (none))) else (none)) else (none))))
set_option maxHeartbeats 8000000 in
set_option maxRecDepth 100000 in
theorem wigwagref07_Last.calls (A0 : Option Addr) (c0 : Nat) (l0 : List (S25)) (a1 : Int) (r : List (S25)) (w : World) (hr0 : Kd.C k25 w A0 l0.length l0) (hc0 : l0.length ≤ c0) (h : wigwagref07_Last.f l0 a1 = some r) :
  Calls Try.prog 24 #[.slice A0 l0.length c0,.int .i64 a1] w fun e w' => ∃ v0_ : Value,e = .returned (v0_) ∧ Kd.R k25 25 w' w.heap.size (fun _ => True) v0_ r ∧ Below w.heap.size w w':=by
 have HR0:=Aside0.mk hr0
 have HC0:=Aside0.mk hc0
 clear hr0 hc0
 have HB:=Aside0.mk (Below.refl w.heap.size w)
 have H : (if a1 < 0 then (if 0 > (l0.length : Int) then ((some (([] : List (S25)) : List (S25))).bind fun y423 => (if 0 ≤ (l0.length : Int) then ((some (l0.drop 0 : List (S25))).bind fun y426 => (if y423.length + y426.length < 8796093022208 then (some (y423 ++ y426)) else (none))) else (none))) else ((some (([] : List (S25)) : List (S25))).bind fun y433 => (if 0 ≤ (wrap64 ((l0.length : Int))) then (if (wrap64 ((l0.length : Int))) ≤ (l0.length : Int) then ((some (l0.drop ((wrap64 ((l0.length : Int))) : Int).toNat : List (S25))).bind fun y436 => (if y433.length + y436.length < 8796093022208 then (some (y433 ++ y436)) else (none))) else (none)) else (none)))) else (if a1 > (l0.length : Int) then ((some (([] : List (S25)) : List (S25))).bind fun y443 => (if 0 ≤ (l0.length : Int) then ((some (l0.drop 0 : List (S25))).bind fun y446 => (if y443.length + y446.length < 8796093022208 then (some (y443 ++ y446)) else (none))) else (none))) else ((some (([] : List (S25)) : List (S25))).bind fun y453 => (if 0 ≤ (wrap64 ((l0.length : Int) - a1)) then (if (wrap64 ((l0.length : Int) - a1)) ≤ (l0.length : Int) then ((some (l0.drop ((wrap64 ((l0.length : Int) - a1)) : Int).toNat : List (S25))).bind fun y456 => (if y453.length + y456.length < 8796093022208 then (some (y453 ++ y456)) else (none))) else (none)) else (none))))) = some r:=h
 clear h
 by_cases c3 : a1 < 0
 ·rw [if_pos c3] at H
  have c3b0 : decide (a1 < 0) = true:=decide_eq_true c3
  clear c3
  by_cases c4 : 0 > (l0.length : Int)
  ·exact absurd c4 (by omega)
  ·rw [if_neg c4] at H
   have c4b0 : decide ((l0.length : Int) < 0) = false:=decide_eq_false c4
   have c4b1 : decide (l0.length < 0) = false:=decide_eq_false (by omega)
   clear c4
   obtain ⟨y433,hy433⟩ : ∃ y_ : List (S25),y_ = (([] : List (S25))):=⟨_,rfl⟩
   replace H : (if 0 ≤ (wrap64 ((l0.length : Int))) then (if (wrap64 ((l0.length : Int))) ≤ (l0.length : Int) then ((some (l0.drop ((wrap64 ((l0.length : Int))) : Int).toNat : List (S25))).bind fun y436 => (if y433.length + y436.length < 8796093022208 then (some (y433 ++ y436)) else (none))) else (none)) else (none)) = some r:=by first | (rw [hy433];with_reducible exact H) | (have H2_:=(Option.bind_some _ _).symm.trans H;rw [hy433];with_reducible exact H2_) | (have H2_:=(Option.bind_some _ _).symm.trans H;with_reducible exact H2_) | with_reducible exact H | (rw [hy433];exact H) | exact H
   have Ny433:=Aside0.mk hy433
   clear hy433
   obtain ⟨ji11,hji11⟩ : ∃ j_ : Int,(wrap64 ((l0.length : Int))) = j_:=⟨_,rfl⟩
   replace H : (if 0 ≤ (ji11) then (if (ji11) ≤ (l0.length : Int) then ((some (l0.drop ((ji11) : Int).toNat : List (S25))).bind fun y436 => (if y433.length + y436.length < 8796093022208 then (some (y433 ++ y436)) else (none))) else (none)) else (none)) = some r:=by first | (rw [hji11] at H;exact H) | (simp only [hji11] at H ⊢;exact H)
   have hji11w : (IntKind.i64.wrap ((l0.length : Int))) = ji11:=(i64_w _).trans hji11
   by_cases c12 : 0 ≤ (ji11)
   ·rw [if_pos c12] at H
    have c12b0:=eq_true c12
    have c12b1 : decide (0 ≤ (ji11)) = true:=decide_eq_true c12
    clear c12
    by_cases c13 : (ji11) ≤ (l0.length : Int)
    ·rw [if_pos c13] at H
     have c13b0:=eq_true c13
     have c13b1 : decide ((ji11) ≤ (l0.length : Int)) = true:=decide_eq_true c13
     clear c13
     obtain ⟨y436,hy436⟩ : ∃ y_ : List (S25),y_ = (l0.drop ((ji11) : Int).toNat):=⟨_,rfl⟩
     replace H : (if y433.length + y436.length < 8796093022208 then (some (y433 ++ y436)) else (none)) = some r:=by first | (rw [hy436];with_reducible exact H) | (have H2_:=(Option.bind_some _ _).symm.trans H;rw [hy436];with_reducible exact H2_) | (have H2_:=(Option.bind_some _ _).symm.trans H;with_reducible exact H2_) | with_reducible exact H | (rw [hy436];exact H) | exact H
     have Ny436:=Aside0.mk hy436
     clear hy436
     by_cases c14 : y433.length + y436.length < 8796093022208
     ·rw [if_pos c14] at H
      have LMc14:=Aside0.mk c14
      clear c14
      obtain ⟨y440,hy440⟩ : ∃ y_ : List (S25),y_ = (y433 ++ y436):=⟨_,rfl⟩
      replace H : (some y440) = some r:=by first | (rw [hy440];with_reducible exact H) | (have H2_:=(Option.bind_some _ _).symm.trans H;rw [hy440];with_reducible exact H2_) | (have H2_:=(Option.bind_some _ _).symm.trans H;with_reducible exact H2_) | with_reducible exact H | (rw [hy440];exact H) | exact H
      have Ny440:=Aside0.mk hy440
      clear hy440
      obtain rfl:=Option.some.inj H
      go_enter Try.func24,Try.ntmps24
      go_wp2_with (first | ((with_reducible refine gate_dst (N:=13) rfl ?_);refine Kd.R_lit k25 _ 25 ?hg (N:=13) ?hd (xs:=([] : List (S25))) (inner:=[]) (ok:=fun _ => True) (okp:=fun _ => True) ?hr ?hp (fun _ hk => hk) trivial (Below.refl _ _) (Nat.le_refl _) (by simp) ?_;(case hd => rfl);(case hg => rfl);(case hr => first | (go_simp;done) | (go_simp;rfl));(case hp => exact (Reps.none _ _));intro v434 w15 ho16 hb hg_ hnew_;clear hg_ hnew_;(first | rw [← Ny433.out] at ho16 | (simp only [Int.reduceToNat] at ho16;rw [← Ny433.out] at ho16));have n0_:=Aside0.mk (Kd.R_lower ho16 (below_size (by repeat (first | (with_reducible first | exact HB.out | apply below_alloc | apply pw_below_drewN | apply below_drew1) | exact HB.out))));have n1_:=Aside0.mk (below_step (by repeat (first | (with_reducible first | exact HB.out | apply below_alloc | apply pw_below_drewN | apply below_drew1) | exact HB.out)) hb);clear HB;have HO435:=n0_;have HB:=n1_;clear n0_ n1_;clear hb ho16;have q17 : ((ji11) : Int) ≤ ((l0.length : Int) : Int):=of_decide_eq_true (by first | (with_reducible assumption) | assumption);obtain ⟨i017,hi017,_,hsz17,_⟩:=info_parts info25;have hroom17 : l0.length ≤ c0:=HC0.out;have hC17 : Kd.C k25 _ A0 l0.length l0:=HR0.out;have q017 : (0 : Int) ≤ ((ji11) : Int):=of_decide_eq_true (by first | (with_reducible assumption) | assumption);have hcut17:=cut_from (P:=Try.prog) 22 25 .i64 Try.underlying22 hi017 2 hsz17 A0 l0.length c0 (ji11) q017 q17;have hr17:=Kd.C_drop (m:=((ji11) : Int).toNat) (c:=c0) hC17 (by omega) hroom17;obtain ⟨A17,hA17⟩ : ∃ A1,A1 = (if c0 = ((ji11) : Int).toNat then A0 else (A0 : Option Addr).map (·.add (((ji11) : Int).toNat * 2))):=⟨_,rfl⟩;obtain ⟨c17,hc17⟩ : ∃ c1,c1 = c0 - ((ji11) : Int).toNat:=⟨_,rfl⟩;have hy17 : y436.length = l0.length - ((ji11) : Int).toNat:=(by rw [Ny436.out,List.length_drop] <;> omega);rw [show (l0).drop ((ji11) : Int).toNat = y436 from Ny436.out.symm] at hr17;replace hr17 : Kd.C k25 _ A17 y436.length y436:=(by rw [hA17];exact hr17);rw [← hy17,← hA17,← hc17] at hcut17;have HR439:=Aside0.mk hr17;have HC439:=Aside0.mk (show y436.length ≤ c17 from by rw [hy17,hc17];exact Nat.sub_le_sub_right hroom17 _);clear hr17 hC17 hroom17 hi017 hsz17 hc17;have KY17:=Aside0.mk hy17;have KA17:=Aside0.mk hA17;clear hy17 hA17;replace q17:=eq_true q17) | ((with_reducible refine gate_builtin (b:=.append) (xs:=#[.tmp 13,.tmp 19]) rfl ?_);at_builtin;refine Kd.R_append_rows k25 (w0:=w) w.heap.size rfl (.tmp 13) (.tmp 19) 22 25 (.agg #[(.int .u64 0),(.int .u64 0)]) 16 rfl Try.underlying22 info25 rfl (by decide) (by omega) v434 y433 y436 _ _ _ (fun _ => True) (fun _ => False) rfl rfl ?aO ?aR (fun _ _ h => h) (fun _ h => h.elim) ?aF ?aB ?aS ?aL ?_;(case aR => repeat (first | exact (Kd.C_below HR439.out HB.out) | (with_reducible refine Kd.C_alloc ?_ _) | (with_reducible refine Kd.C_drewN ?_ _) | (with_reducible refine Kd.C_drew ?_)));(case aB => exact (by repeat (first | (with_reducible first | exact HB.out | apply below_alloc | apply pw_below_drewN | apply below_drew1) | exact HB.out)));(case aF => exact (fun _ _ => trivial));(case aO => exact (by (with_reducible repeat (first | apply Kd.R_alloc | apply Kd.R_drewN | apply Kd.R_drew));exact HO435.out));(case aS => exact (below_size (by repeat (first | (with_reducible first | exact HB.out | apply below_alloc | apply pw_below_drewN | apply below_drew1) | exact HB.out))));(case aL => have:=LMc14.out;omega);intro v441 w18 ho hb hg hat;rw [← Ny440.out] at ho;have n0_:=Aside0.mk (hb);have n1_:=Aside0.mk (ho);clear HB;clear HO435;have HB:=n0_;have HO442:=n1_;clear n0_ n1_;clear ho hb hg hat))
      go_ret
      exact ⟨_,by first | rfl | (simp [errW_none,errW_some] <;> rfl) | (simp only [← hji11];first | rfl | (simp [errW_none,errW_some] <;> rfl)) | (simp [*,errW_none,errW_some] <;> rfl),by (with_reducible repeat (first | apply Kd.R_alloc | apply Kd.R_drewN | apply Kd.R_drew));exact HO442.out,by repeat (first | (with_reducible first | exact HB.out | apply below_alloc | apply pw_below_drewN | apply below_drew1) | exact HB.out)⟩
     ·rw [if_neg c14] at H
      exact absurd H (by simp)
    ·rw [if_neg c13] at H
     exact absurd H (by simp)
   ·rw [if_neg c12] at H
    exact absurd H (by simp)
 ·rw [if_neg c3] at H
  have c3b0 : decide (a1 < 0) = false:=decide_eq_false c3
  clear c3
  by_cases c19 : a1 > (l0.length : Int)
  ·rw [if_pos c19] at H
   have c19b0 : decide ((l0.length : Int) < a1) = true:=decide_eq_true c19
   clear c19
   obtain ⟨y443,hy443⟩ : ∃ y_ : List (S25),y_ = (([] : List (S25))):=⟨_,rfl⟩
   replace H : (if 0 ≤ (l0.length : Int) then ((some (l0.drop 0 : List (S25))).bind fun y446 => (if y443.length + y446.length < 8796093022208 then (some (y443 ++ y446)) else (none))) else (none)) = some r:=by first | (rw [hy443];with_reducible exact H) | (have H2_:=(Option.bind_some _ _).symm.trans H;rw [hy443];with_reducible exact H2_) | (have H2_:=(Option.bind_some _ _).symm.trans H;with_reducible exact H2_) | with_reducible exact H | (rw [hy443];exact H) | exact H
   have Ny443:=Aside0.mk hy443
   clear hy443
   by_cases c20 : 0 ≤ (l0.length : Int)
   ·rw [if_pos c20] at H
    have c20b0:=eq_true c20
    have c20b1 : decide (0 ≤ (l0.length : Int)) = true:=decide_eq_true c20
    clear c20
    obtain ⟨y446,hy446⟩ : ∃ y_ : List (S25),y_ = (l0.drop 0):=⟨_,rfl⟩
    replace H : (if y443.length + y446.length < 8796093022208 then (some (y443 ++ y446)) else (none)) = some r:=by first | (rw [hy446];with_reducible exact H) | (have H2_:=(Option.bind_some _ _).symm.trans H;rw [hy446];with_reducible exact H2_) | (have H2_:=(Option.bind_some _ _).symm.trans H;with_reducible exact H2_) | with_reducible exact H | (rw [hy446];exact H) | exact H
    have Ny446:=Aside0.mk hy446
    clear hy446
    by_cases c21 : y443.length + y446.length < 8796093022208
    ·rw [if_pos c21] at H
     have LMc21:=Aside0.mk c21
     clear c21
     obtain ⟨y450,hy450⟩ : ∃ y_ : List (S25),y_ = (y443 ++ y446):=⟨_,rfl⟩
     replace H : (some y450) = some r:=by first | (rw [hy450];with_reducible exact H) | (have H2_:=(Option.bind_some _ _).symm.trans H;rw [hy450];with_reducible exact H2_) | (have H2_:=(Option.bind_some _ _).symm.trans H;with_reducible exact H2_) | with_reducible exact H | (rw [hy450];exact H) | exact H
     have Ny450:=Aside0.mk hy450
     clear hy450
     obtain rfl:=Option.some.inj H
     go_enter Try.func24,Try.ntmps24
     go_wp2_with (first | ((with_reducible refine gate_dst (N:=13) rfl ?_);refine Kd.R_lit k25 _ 25 ?hg (N:=13) ?hd (xs:=([] : List (S25))) (inner:=[]) (ok:=fun _ => True) (okp:=fun _ => True) ?hr ?hp (fun _ hk => hk) trivial (Below.refl _ _) (Nat.le_refl _) (by simp) ?_;(case hd => rfl);(case hg => rfl);(case hr => first | (go_simp;done) | (go_simp;rfl));(case hp => exact (Reps.none _ _));intro v444 w22 ho23 hb hg_ hnew_;clear hg_ hnew_;(first | rw [← Ny443.out] at ho23 | (simp only [Int.reduceToNat] at ho23;rw [← Ny443.out] at ho23));have n0_:=Aside0.mk (Kd.R_lower ho23 (below_size (by repeat (first | (with_reducible first | exact HB.out | apply below_alloc | apply pw_below_drewN | apply below_drew1) | exact HB.out))));have n1_:=Aside0.mk (below_step (by repeat (first | (with_reducible first | exact HB.out | apply below_alloc | apply pw_below_drewN | apply below_drew1) | exact HB.out)) hb);clear HB;have HO445:=n0_;have HB:=n1_;clear n0_ n1_;clear hb ho23;have q24 : (0 : Int) ≤ ((l0.length : Int) : Int):=of_decide_eq_true (by first | (with_reducible assumption) | assumption);obtain ⟨i024,hi024,_,hsz24,_⟩:=info_parts info25;have hroom24 : l0.length ≤ c0:=HC0.out;have hC24 : Kd.C k25 _ A0 l0.length l0:=HR0.out;have hcut24:=cut_from (P:=Try.prog) 22 25 .i64 Try.underlying22 hi024 2 hsz24 A0 l0.length c0 0 (by omega) q24;have hr24:=Kd.C_drop (m:=(0 : Int).toNat) (c:=c0) hC24 (by omega) hroom24;obtain ⟨A24,hA24⟩ : ∃ A1,A1 = (if c0 = (0 : Int).toNat then A0 else (A0 : Option Addr).map (·.add ((0 : Int).toNat * 2))):=⟨_,rfl⟩;obtain ⟨c24,hc24⟩ : ∃ c1,c1 = c0 - (0 : Int).toNat:=⟨_,rfl⟩;have hy24 : y446.length = l0.length - (0 : Int).toNat:=(by rw [Ny446.out,List.length_drop] <;> omega);rw [show (l0).drop (0 : Int).toNat = y446 from Ny446.out.symm] at hr24;replace hr24 : Kd.C k25 _ A24 y446.length y446:=(by rw [hA24];exact hr24);rw [← hy24,← hA24,← hc24] at hcut24;have HR449:=Aside0.mk hr24;have HC449:=Aside0.mk (show y446.length ≤ c24 from by rw [hy24,hc24];exact Nat.sub_le_sub_right hroom24 _);clear hr24 hC24 hroom24 hi024 hsz24 hc24;have KY24:=Aside0.mk hy24;have KA24:=Aside0.mk hA24;clear hy24 hA24;replace q24:=eq_true q24) | ((with_reducible refine gate_builtin (b:=.append) (xs:=#[.tmp 13,.tmp 19]) rfl ?_);at_builtin;refine Kd.R_append_rows k25 (w0:=w) w.heap.size rfl (.tmp 13) (.tmp 19) 22 25 (.agg #[(.int .u64 0),(.int .u64 0)]) 16 rfl Try.underlying22 info25 rfl (by decide) (by omega) v444 y443 y446 _ _ _ (fun _ => True) (fun _ => False) rfl rfl ?aO ?aR (fun _ _ h => h) (fun _ h => h.elim) ?aF ?aB ?aS ?aL ?_;(case aR => repeat (first | exact (Kd.C_below HR449.out HB.out) | (with_reducible refine Kd.C_alloc ?_ _) | (with_reducible refine Kd.C_drewN ?_ _) | (with_reducible refine Kd.C_drew ?_)));(case aB => exact (by repeat (first | (with_reducible first | exact HB.out | apply below_alloc | apply pw_below_drewN | apply below_drew1) | exact HB.out)));(case aF => exact (fun _ _ => trivial));(case aO => exact (by (with_reducible repeat (first | apply Kd.R_alloc | apply Kd.R_drewN | apply Kd.R_drew));exact HO445.out));(case aS => exact (below_size (by repeat (first | (with_reducible first | exact HB.out | apply below_alloc | apply pw_below_drewN | apply below_drew1) | exact HB.out))));(case aL => have:=LMc21.out;omega);intro v451 w25 ho hb hg hat;rw [← Ny450.out] at ho;have n0_:=Aside0.mk (hb);have n1_:=Aside0.mk (ho);clear HB;clear HO445;have HB:=n0_;have HO452:=n1_;clear n0_ n1_;clear ho hb hg hat))
     go_ret
     exact ⟨_,by first | rfl | (simp [errW_none,errW_some] <;> rfl) | (simp [*,errW_none,errW_some] <;> rfl),by (with_reducible repeat (first | apply Kd.R_alloc | apply Kd.R_drewN | apply Kd.R_drew));exact HO452.out,by repeat (first | (with_reducible first | exact HB.out | apply below_alloc | apply pw_below_drewN | apply below_drew1) | exact HB.out)⟩
    ·rw [if_neg c21] at H
     exact absurd H (by simp)
   ·rw [if_neg c20] at H
    exact absurd H (by simp)
  ·rw [if_neg c19] at H
   have c19b0 : decide ((l0.length : Int) < a1) = false:=decide_eq_false c19
   clear c19
   obtain ⟨y453,hy453⟩ : ∃ y_ : List (S25),y_ = (([] : List (S25))):=⟨_,rfl⟩
   replace H : (if 0 ≤ (wrap64 ((l0.length : Int) - a1)) then (if (wrap64 ((l0.length : Int) - a1)) ≤ (l0.length : Int) then ((some (l0.drop ((wrap64 ((l0.length : Int) - a1)) : Int).toNat : List (S25))).bind fun y456 => (if y453.length + y456.length < 8796093022208 then (some (y453 ++ y456)) else (none))) else (none)) else (none)) = some r:=by first | (rw [hy453];with_reducible exact H) | (have H2_:=(Option.bind_some _ _).symm.trans H;rw [hy453];with_reducible exact H2_) | (have H2_:=(Option.bind_some _ _).symm.trans H;with_reducible exact H2_) | with_reducible exact H | (rw [hy453];exact H) | exact H
   have Ny453:=Aside0.mk hy453
   clear hy453
   obtain ⟨ji26,hji26⟩ : ∃ j_ : Int,(wrap64 ((l0.length : Int) - a1)) = j_:=⟨_,rfl⟩
   replace H : (if 0 ≤ (ji26) then (if (ji26) ≤ (l0.length : Int) then ((some (l0.drop ((ji26) : Int).toNat : List (S25))).bind fun y456 => (if y453.length + y456.length < 8796093022208 then (some (y453 ++ y456)) else (none))) else (none)) else (none)) = some r:=by first | (rw [hji26] at H;exact H) | (simp only [hji26] at H ⊢;exact H)
   have hji26w : (IntKind.i64.wrap ((l0.length : Int) - a1)) = ji26:=(i64_w _).trans hji26
   by_cases c27 : 0 ≤ (ji26)
   ·rw [if_pos c27] at H
    have c27b0:=eq_true c27
    have c27b1 : decide (0 ≤ (ji26)) = true:=decide_eq_true c27
    clear c27
    by_cases c28 : (ji26) ≤ (l0.length : Int)
    ·rw [if_pos c28] at H
     have c28b0:=eq_true c28
     have c28b1 : decide ((ji26) ≤ (l0.length : Int)) = true:=decide_eq_true c28
     clear c28
     obtain ⟨y456,hy456⟩ : ∃ y_ : List (S25),y_ = (l0.drop ((ji26) : Int).toNat):=⟨_,rfl⟩
     replace H : (if y453.length + y456.length < 8796093022208 then (some (y453 ++ y456)) else (none)) = some r:=by first | (rw [hy456];with_reducible exact H) | (have H2_:=(Option.bind_some _ _).symm.trans H;rw [hy456];with_reducible exact H2_) | (have H2_:=(Option.bind_some _ _).symm.trans H;with_reducible exact H2_) | with_reducible exact H | (rw [hy456];exact H) | exact H
     have Ny456:=Aside0.mk hy456
     clear hy456
     by_cases c29 : y453.length + y456.length < 8796093022208
     ·rw [if_pos c29] at H
      have LMc29:=Aside0.mk c29
      clear c29
      obtain ⟨y460,hy460⟩ : ∃ y_ : List (S25),y_ = (y453 ++ y456):=⟨_,rfl⟩
      replace H : (some y460) = some r:=by first | (rw [hy460];with_reducible exact H) | (have H2_:=(Option.bind_some _ _).symm.trans H;rw [hy460];with_reducible exact H2_) | (have H2_:=(Option.bind_some _ _).symm.trans H;with_reducible exact H2_) | with_reducible exact H | (rw [hy460];exact H) | exact H
      have Ny460:=Aside0.mk hy460
      clear hy460
      obtain rfl:=Option.some.inj H
      go_enter Try.func24,Try.ntmps24
      go_wp2_with (first | ((with_reducible refine gate_dst (N:=13) rfl ?_);refine Kd.R_lit k25 _ 25 ?hg (N:=13) ?hd (xs:=([] : List (S25))) (inner:=[]) (ok:=fun _ => True) (okp:=fun _ => True) ?hr ?hp (fun _ hk => hk) trivial (Below.refl _ _) (Nat.le_refl _) (by simp) ?_;(case hd => rfl);(case hg => rfl);(case hr => first | (go_simp;done) | (go_simp;rfl));(case hp => exact (Reps.none _ _));intro v454 w30 ho31 hb hg_ hnew_;clear hg_ hnew_;(first | rw [← Ny453.out] at ho31 | (simp only [Int.reduceToNat] at ho31;rw [← Ny453.out] at ho31));have n0_:=Aside0.mk (Kd.R_lower ho31 (below_size (by repeat (first | (with_reducible first | exact HB.out | apply below_alloc | apply pw_below_drewN | apply below_drew1) | exact HB.out))));have n1_:=Aside0.mk (below_step (by repeat (first | (with_reducible first | exact HB.out | apply below_alloc | apply pw_below_drewN | apply below_drew1) | exact HB.out)) hb);clear HB;have HO455:=n0_;have HB:=n1_;clear n0_ n1_;clear hb ho31;have q32 : ((ji26) : Int) ≤ ((l0.length : Int) : Int):=of_decide_eq_true (by first | (with_reducible assumption) | assumption);obtain ⟨i032,hi032,_,hsz32,_⟩:=info_parts info25;have hroom32 : l0.length ≤ c0:=HC0.out;have hC32 : Kd.C k25 _ A0 l0.length l0:=HR0.out;have q032 : (0 : Int) ≤ ((ji26) : Int):=of_decide_eq_true (by first | (with_reducible assumption) | assumption);have hcut32:=cut_from (P:=Try.prog) 22 25 .i64 Try.underlying22 hi032 2 hsz32 A0 l0.length c0 (ji26) q032 q32;have hr32:=Kd.C_drop (m:=((ji26) : Int).toNat) (c:=c0) hC32 (by omega) hroom32;obtain ⟨A32,hA32⟩ : ∃ A1,A1 = (if c0 = ((ji26) : Int).toNat then A0 else (A0 : Option Addr).map (·.add (((ji26) : Int).toNat * 2))):=⟨_,rfl⟩;obtain ⟨c32,hc32⟩ : ∃ c1,c1 = c0 - ((ji26) : Int).toNat:=⟨_,rfl⟩;have hy32 : y456.length = l0.length - ((ji26) : Int).toNat:=(by rw [Ny456.out,List.length_drop] <;> omega);rw [show (l0).drop ((ji26) : Int).toNat = y456 from Ny456.out.symm] at hr32;replace hr32 : Kd.C k25 _ A32 y456.length y456:=(by rw [hA32];exact hr32);rw [← hy32,← hA32,← hc32] at hcut32;have HR459:=Aside0.mk hr32;have HC459:=Aside0.mk (show y456.length ≤ c32 from by rw [hy32,hc32];exact Nat.sub_le_sub_right hroom32 _);clear hr32 hC32 hroom32 hi032 hsz32 hc32;have KY32:=Aside0.mk hy32;have KA32:=Aside0.mk hA32;clear hy32 hA32;replace q32:=eq_true q32) | ((with_reducible refine gate_builtin (b:=.append) (xs:=#[.tmp 13,.tmp 19]) rfl ?_);at_builtin;refine Kd.R_append_rows k25 (w0:=w) w.heap.size rfl (.tmp 13) (.tmp 19) 22 25 (.agg #[(.int .u64 0),(.int .u64 0)]) 16 rfl Try.underlying22 info25 rfl (by decide) (by omega) v454 y453 y456 _ _ _ (fun _ => True) (fun _ => False) rfl rfl ?aO ?aR (fun _ _ h => h) (fun _ h => h.elim) ?aF ?aB ?aS ?aL ?_;(case aR => repeat (first | exact (Kd.C_below HR459.out HB.out) | (with_reducible refine Kd.C_alloc ?_ _) | (with_reducible refine Kd.C_drewN ?_ _) | (with_reducible refine Kd.C_drew ?_)));(case aB => exact (by repeat (first | (with_reducible first | exact HB.out | apply below_alloc | apply pw_below_drewN | apply below_drew1) | exact HB.out)));(case aF => exact (fun _ _ => trivial));(case aO => exact (by (with_reducible repeat (first | apply Kd.R_alloc | apply Kd.R_drewN | apply Kd.R_drew));exact HO455.out));(case aS => exact (below_size (by repeat (first | (with_reducible first | exact HB.out | apply below_alloc | apply pw_below_drewN | apply below_drew1) | exact HB.out))));(case aL => have:=LMc29.out;omega);intro v461 w33 ho hb hg hat;rw [← Ny460.out] at ho;have n0_:=Aside0.mk (hb);have n1_:=Aside0.mk (ho);clear HB;clear HO455;have HB:=n0_;have HO462:=n1_;clear n0_ n1_;clear ho hb hg hat))
      go_ret
      exact ⟨_,by first | rfl | (simp [errW_none,errW_some] <;> rfl) | (simp only [← hji26];first | rfl | (simp [errW_none,errW_some] <;> rfl)) | (simp [*,errW_none,errW_some] <;> rfl),by (with_reducible repeat (first | apply Kd.R_alloc | apply Kd.R_drewN | apply Kd.R_drew));exact HO462.out,by repeat (first | (with_reducible first | exact HB.out | apply below_alloc | apply pw_below_drewN | apply below_drew1) | exact HB.out)⟩
     ·rw [if_neg c29] at H
      exact absurd H (by simp)
    ·rw [if_neg c28] at H
     exact absurd H (by simp)
   ·rw [if_neg c27] at H
    exact absurd H (by simp)

end Go.Proofs.Ytgaccappklhojaa.P
