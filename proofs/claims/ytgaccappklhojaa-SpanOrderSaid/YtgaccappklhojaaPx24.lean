-- Printed for this claim by xprint.py of this session: contracts of this session's own stand in for what the print does not take
import Derived.Test.YtgaccappklhojaaPx0
namespace Go.Proofs.Ytgaccappklhojaa.P
open Go.RowKit Go.Proofs.YtgaccappklhojaaW.PrintWords Go.Proofs.YtgaccappklhojaaW.PrintLast Go.Proofs.YtgaccappklhojaaW.PrintMore
attribute [local go_sem] max2_int min2_int max_two min_two max_three min_three max_four min_four   -- for this text's walks alone
set_option linter.unusedVariables false
set_option linter.unusedSimpArgs false

/-! ### wigwagref07_Last: function 24 -/
def wigwagref07_Last.f (l0 : List (S25)) (a1 : Int) : Option ((List (S25))):=if a1 < 0 then (if 0 > (l0.length : Int) then ((some (([] : List (S25)) : List (S25))).bind fun y424 => (if 0 ≤ (l0.length : Int) then ((some (l0.drop 0 : List (S25))).bind fun y427 => (if y424.length + y427.length < 8796093022208 then (some (y424 ++ y427)) else (none))) else (none))) else ((some (([] : List (S25)) : List (S25))).bind fun y434 => (if 0 ≤ (wrap64 ((l0.length : Int))) then (if (wrap64 ((l0.length : Int))) ≤ (l0.length : Int) then ((some (l0.drop ((wrap64 ((l0.length : Int))) : Int).toNat : List (S25))).bind fun y437 => (if y434.length + y437.length < 8796093022208 then (some (y434 ++ y437)) else (none))) else (none)) else (none)))) else (if a1 > (l0.length : Int) then ((some (([] : List (S25)) : List (S25))).bind fun y444 => (if 0 ≤ (l0.length : Int) then ((some (l0.drop 0 : List (S25))).bind fun y447 => (if y444.length + y447.length < 8796093022208 then (some (y444 ++ y447)) else (none))) else (none))) else ((some (([] : List (S25)) : List (S25))).bind fun y454 => (if 0 ≤ (wrap64 ((l0.length : Int) - a1)) then (if (wrap64 ((l0.length : Int) - a1)) ≤ (l0.length : Int) then ((some (l0.drop ((wrap64 ((l0.length : Int) - a1)) : Int).toNat : List (S25))).bind fun y457 => (if y454.length + y457.length < 8796093022208 then (some (y454 ++ y457)) else (none))) else (none)) else (none))))
set_option maxHeartbeats 8000000 in
set_option maxRecDepth 100000 in
theorem wigwagref07_Last.calls (A0 : Option Addr) (c0 : Nat) (l0 : List (S25)) (a1 : Int) (r : List (S25)) (w : World) (hr0 : Kd.C k25 w A0 l0.length l0) (hc0 : l0.length ≤ c0) (h : wigwagref07_Last.f l0 a1 = some r) :
  Calls Try.prog 24 #[.slice A0 l0.length c0,.int .i64 a1] w fun e w' => ∃ v0_ : Value,e = .returned (v0_) ∧ Kd.R k25 25 w' w.heap.size (fun _ => True) v0_ r ∧ Below w.heap.size w w':=by
 have HR0:=Aside0.mk hr0
 have HC0:=Aside0.mk hc0
 clear hr0 hc0
 have HB:=Aside0.mk (Below.refl w.heap.size w)
 have H : (if a1 < 0 then (if 0 > (l0.length : Int) then ((some (([] : List (S25)) : List (S25))).bind fun y424 => (if 0 ≤ (l0.length : Int) then ((some (l0.drop 0 : List (S25))).bind fun y427 => (if y424.length + y427.length < 8796093022208 then (some (y424 ++ y427)) else (none))) else (none))) else ((some (([] : List (S25)) : List (S25))).bind fun y434 => (if 0 ≤ (wrap64 ((l0.length : Int))) then (if (wrap64 ((l0.length : Int))) ≤ (l0.length : Int) then ((some (l0.drop ((wrap64 ((l0.length : Int))) : Int).toNat : List (S25))).bind fun y437 => (if y434.length + y437.length < 8796093022208 then (some (y434 ++ y437)) else (none))) else (none)) else (none)))) else (if a1 > (l0.length : Int) then ((some (([] : List (S25)) : List (S25))).bind fun y444 => (if 0 ≤ (l0.length : Int) then ((some (l0.drop 0 : List (S25))).bind fun y447 => (if y444.length + y447.length < 8796093022208 then (some (y444 ++ y447)) else (none))) else (none))) else ((some (([] : List (S25)) : List (S25))).bind fun y454 => (if 0 ≤ (wrap64 ((l0.length : Int) - a1)) then (if (wrap64 ((l0.length : Int) - a1)) ≤ (l0.length : Int) then ((some (l0.drop ((wrap64 ((l0.length : Int) - a1)) : Int).toNat : List (S25))).bind fun y457 => (if y454.length + y457.length < 8796093022208 then (some (y454 ++ y457)) else (none))) else (none)) else (none))))) = some r:=h
 clear h
 by_cases c3 : a1 < 0
 ·rw [if_pos c3] at H
  have c3b0 : decide (a1 < 0) = true:=decide_eq_true c3
  clear c3
  by_cases c4 : 0 > (l0.length : Int)
  ·exact absurd c4 (by omega)
  ·rw [if_neg c4] at H
   have c4b0 : decide ((l0.length : Int) < 0) = false:=decide_eq_false c4
   have c4b1 : decide (l0.length < 0) = false:=decide_eq_false (by omega)
   clear c4
   obtain ⟨y434,hy434⟩ : ∃ y_ : List (S25),y_ = (([] : List (S25))):=⟨_,rfl⟩
   replace H : (if 0 ≤ (wrap64 ((l0.length : Int))) then (if (wrap64 ((l0.length : Int))) ≤ (l0.length : Int) then ((some (l0.drop ((wrap64 ((l0.length : Int))) : Int).toNat : List (S25))).bind fun y437 => (if y434.length + y437.length < 8796093022208 then (some (y434 ++ y437)) else (none))) else (none)) else (none)) = some r:=by first | (rw [hy434];with_reducible exact H) | (have H2_:=(Option.bind_some _ _).symm.trans H;rw [hy434];with_reducible exact H2_) | (have H2_:=(Option.bind_some _ _).symm.trans H;with_reducible exact H2_) | with_reducible exact H | (rw [hy434];exact H) | exact H
   have Ny434:=Aside0.mk hy434
   clear hy434
   obtain ⟨ji11,hji11⟩ : ∃ j_ : Int,(wrap64 ((l0.length : Int))) = j_:=⟨_,rfl⟩
   replace H : (if 0 ≤ (ji11) then (if (ji11) ≤ (l0.length : Int) then ((some (l0.drop ((ji11) : Int).toNat : List (S25))).bind fun y437 => (if y434.length + y437.length < 8796093022208 then (some (y434 ++ y437)) else (none))) else (none)) else (none)) = some r:=by first | (rw [hji11] at H;exact H) | (simp only [hji11] at H ⊢;exact H)
   have hji11w : (IntKind.i64.wrap ((l0.length : Int))) = ji11:=(i64_w _).trans hji11
   by_cases c12 : 0 ≤ (ji11)
   ·rw [if_pos c12] at H
    have c12b0:=eq_true c12
    have c12b1 : decide (0 ≤ (ji11)) = true:=decide_eq_true c12
    clear c12
    by_cases c13 : (ji11) ≤ (l0.length : Int)
    ·rw [if_pos c13] at H
     have c13b0:=eq_true c13
     have c13b1 : decide ((ji11) ≤ (l0.length : Int)) = true:=decide_eq_true c13
     clear c13
     obtain ⟨y437,hy437⟩ : ∃ y_ : List (S25),y_ = (l0.drop ((ji11) : Int).toNat):=⟨_,rfl⟩
     replace H : (if y434.length + y437.length < 8796093022208 then (some (y434 ++ y437)) else (none)) = some r:=by first | (rw [hy437];with_reducible exact H) | (have H2_:=(Option.bind_some _ _).symm.trans H;rw [hy437];with_reducible exact H2_) | (have H2_:=(Option.bind_some _ _).symm.trans H;with_reducible exact H2_) | with_reducible exact H | (rw [hy437];exact H) | exact H
     have Ny437:=Aside0.mk hy437
     clear hy437
     by_cases c14 : y434.length + y437.length < 8796093022208
     ·rw [if_pos c14] at H
      have LMc14:=Aside0.mk c14
      clear c14
      obtain ⟨y441,hy441⟩ : ∃ y_ : List (S25),y_ = (y434 ++ y437):=⟨_,rfl⟩
      replace H : (some y441) = some r:=by first | (rw [hy441];with_reducible exact H) | (have H2_:=(Option.bind_some _ _).symm.trans H;rw [hy441];with_reducible exact H2_) | (have H2_:=(Option.bind_some _ _).symm.trans H;with_reducible exact H2_) | with_reducible exact H | (rw [hy441];exact H) | exact H
      have Ny441:=Aside0.mk hy441
      clear hy441
      obtain rfl:=Option.some.inj H
      go_enter Try.func24,Try.ntmps24
      go_wp2_with (first | ((with_reducible refine gate_dst (N:=13) rfl ?_);refine Kd.R_lit k25 _ 25 ?hg (N:=13) ?hd (xs:=([] : List (S25))) (inner:=[]) (ok:=fun _ => True) (okp:=fun _ => True) ?hr ?hp (fun _ hk => hk) trivial (Below.refl _ _) (Nat.le_refl _) (by simp) ?_;(case hd => rfl);(case hg => rfl);(case hr => first | (go_simp;done) | (go_simp;rfl));(case hp => exact (Reps.none _ _));intro v435 w15 ho16 hb hg_ hnew_;clear hg_ hnew_;(first | rw [← Ny434.out] at ho16 | (simp only [Int.reduceToNat] at ho16;rw [← Ny434.out] at ho16));have n0_:=Aside0.mk (Kd.R_lower ho16 (below_size (by repeat (first | (with_reducible first | exact HB.out | apply below_alloc | apply pw_below_drewN | apply below_drew1) | exact HB.out))));have n1_:=Aside0.mk (below_step (by repeat (first | (with_reducible first | exact HB.out | apply below_alloc | apply pw_below_drewN | apply below_drew1) | exact HB.out)) hb);clear HB;have HO436:=n0_;have HB:=n1_;clear n0_ n1_;clear hb ho16;have q17 : ((ji11) : Int) ≤ ((l0.length : Int) : Int):=of_decide_eq_true (by first | (with_reducible assumption) | assumption);obtain ⟨i017,hi017,_,hsz17,_⟩:=info_parts info25;have hroom17 : l0.length ≤ c0:=HC0.out;have hC17 : Kd.C k25 _ A0 l0.length l0:=HR0.out;have q017 : (0 : Int) ≤ ((ji11) : Int):=of_decide_eq_true (by first | (with_reducible assumption) | assumption);have hcut17:=cut_from (P:=Try.prog) 22 25 .i64 Try.underlying22 hi017 2 hsz17 A0 l0.length c0 (ji11) q017 q17;have hr17:=Kd.C_drop (m:=((ji11) : Int).toNat) (c:=c0) hC17 (by omega) hroom17;obtain ⟨A17,hA17⟩ : ∃ A1,A1 = (if c0 = ((ji11) : Int).toNat then A0 else (A0 : Option Addr).map (·.add (((ji11) : Int).toNat * 2))):=⟨_,rfl⟩;obtain ⟨c17,hc17⟩ : ∃ c1,c1 = c0 - ((ji11) : Int).toNat:=⟨_,rfl⟩;have hy17 : y437.length = l0.length - ((ji11) : Int).toNat:=(by rw [Ny437.out,List.length_drop] <;> omega);rw [show (l0).drop ((ji11) : Int).toNat = y437 from Ny437.out.symm] at hr17;replace hr17 : Kd.C k25 _ A17 y437.length y437:=(by rw [hA17];exact hr17);rw [← hy17,← hA17,← hc17] at hcut17;have HR440:=Aside0.mk hr17;have HC440:=Aside0.mk (show y437.length ≤ c17 from by rw [hy17,hc17];exact Nat.sub_le_sub_right hroom17 _);clear hr17 hC17 hroom17 hi017 hsz17 hc17;have KY17:=Aside0.mk hy17;have KA17:=Aside0.mk hA17;clear hy17 hA17;replace q17:=eq_true q17) | ((with_reducible refine gate_builtin (b:=.append) (xs:=#[.tmp 13,.tmp 19]) rfl ?_);at_builtin;refine Kd.R_append_rows k25 (w0:=w) w.heap.size rfl (.tmp 13) (.tmp 19) 22 25 (.agg #[(.int .u64 0),(.int .u64 0)]) 16 rfl Try.underlying22 info25 rfl (by decide) (by omega) v435 y434 y437 _ _ _ (fun _ => True) (fun _ => False) rfl rfl ?aO ?aR (fun _ _ h => h) (fun _ h => h.elim) ?aF ?aB ?aS ?aL ?_;(case aR => repeat (first | exact (Kd.C_below HR440.out HB.out) | (with_reducible refine Kd.C_alloc ?_ _) | (with_reducible refine Kd.C_drewN ?_ _) | (with_reducible refine Kd.C_drew ?_)));(case aB => exact (by repeat (first | (with_reducible first | exact HB.out | apply below_alloc | apply pw_below_drewN | apply below_drew1) | exact HB.out)));(case aF => exact (fun _ _ => trivial));(case aO => exact (by (with_reducible repeat (first | apply Kd.R_alloc | apply Kd.R_drewN | apply Kd.R_drew));exact HO436.out));(case aS => exact (below_size (by repeat (first | (with_reducible first | exact HB.out | apply below_alloc | apply pw_below_drewN | apply below_drew1) | exact HB.out))));(case aL => have:=LMc14.out;omega);intro v442 w18 ho hb hg hat;rw [← Ny441.out] at ho;have n0_:=Aside0.mk (hb);have n1_:=Aside0.mk (ho);clear HB;clear HO436;have HB:=n0_;have HO443:=n1_;clear n0_ n1_;clear ho hb hg hat))
      go_ret
      exact ⟨_,by first | rfl | (simp [errW_none,errW_some] <;> rfl) | (simp only [← hji11];first | rfl | (simp [errW_none,errW_some] <;> rfl)) | (simp [*,errW_none,errW_some] <;> rfl),by (with_reducible repeat (first | apply Kd.R_alloc | apply Kd.R_drewN | apply Kd.R_drew));exact HO443.out,by repeat (first | (with_reducible first | exact HB.out | apply below_alloc | apply pw_below_drewN | apply below_drew1) | exact HB.out)⟩
     ·rw [if_neg c14] at H
      exact absurd H (by simp)
    ·rw [if_neg c13] at H
     exact absurd H (by simp)
   ·rw [if_neg c12] at H
    exact absurd H (by simp)
 ·rw [if_neg c3] at H
  have c3b0 : decide (a1 < 0) = false:=decide_eq_false c3
  clear c3
  by_cases c19 : a1 > (l0.length : Int)
  ·rw [if_pos c19] at H
   have c19b0 : decide ((l0.length : Int) < a1) = true:=decide_eq_true c19
   clear c19
   obtain ⟨y444,hy444⟩ : ∃ y_ : List (S25),y_ = (([] : List (S25))):=⟨_,rfl⟩
   replace H : (if 0 ≤ (l0.length : Int) then ((some (l0.drop 0 : List (S25))).bind fun y447 => (if y444.length + y447.length < 8796093022208 then (some (y444 ++ y447)) else (none))) else (none)) = some r:=by first | (rw [hy444];with_reducible exact H) | (have H2_:=(Option.bind_some _ _).symm.trans H;rw [hy444];with_reducible exact H2_) | (have H2_:=(Option.bind_some _ _).symm.trans H;with_reducible exact H2_) | with_reducible exact H | (rw [hy444];exact H) | exact H
   have Ny444:=Aside0.mk hy444
   clear hy444
   by_cases c20 : 0 ≤ (l0.length : Int)
   ·rw [if_pos c20] at H
    have c20b0:=eq_true c20
    have c20b1 : decide (0 ≤ (l0.length : Int)) = true:=decide_eq_true c20
    clear c20
    obtain ⟨y447,hy447⟩ : ∃ y_ : List (S25),y_ = (l0.drop 0):=⟨_,rfl⟩
    replace H : (if y444.length + y447.length < 8796093022208 then (some (y444 ++ y447)) else (none)) = some r:=by first | (rw [hy447];with_reducible exact H) | (have H2_:=(Option.bind_some _ _).symm.trans H;rw [hy447];with_reducible exact H2_) | (have H2_:=(Option.bind_some _ _).symm.trans H;with_reducible exact H2_) | with_reducible exact H | (rw [hy447];exact H) | exact H
    have Ny447:=Aside0.mk hy447
    clear hy447
    by_cases c21 : y444.length + y447.length < 8796093022208
    ·rw [if_pos c21] at H
     have LMc21:=Aside0.mk c21
     clear c21
     obtain ⟨y451,hy451⟩ : ∃ y_ : List (S25),y_ = (y444 ++ y447):=⟨_,rfl⟩
     replace H : (some y451) = some r:=by first | (rw [hy451];with_reducible exact H) | (have H2_:=(Option.bind_some _ _).symm.trans H;rw [hy451];with_reducible exact H2_) | (have H2_:=(Option.bind_some _ _).symm.trans H;with_reducible exact H2_) | with_reducible exact H | (rw [hy451];exact H) | exact H
     have Ny451:=Aside0.mk hy451
     clear hy451
     obtain rfl:=Option.some.inj H
     go_enter Try.func24,Try.ntmps24
     go_wp2_with (first | ((with_reducible refine gate_dst (N:=13) rfl ?_);refine Kd.R_lit k25 _ 25 ?hg (N:=13) ?hd (xs:=([] : List (S25))) (inner:=[]) (ok:=fun _ => True) (okp:=fun _ => True) ?hr ?hp (fun _ hk => hk) trivial (Below.refl _ _) (Nat.le_refl _) (by simp) ?_;(case hd => rfl);(case hg => rfl);(case hr => first | (go_simp;done) | (go_simp;rfl));(case hp => exact (Reps.none _ _));intro v445 w22 ho23 hb hg_ hnew_;clear hg_ hnew_;(first | rw [← Ny444.out] at ho23 | (simp only [Int.reduceToNat] at ho23;rw [← Ny444.out] at ho23));have n0_:=Aside0.mk (Kd.R_lower ho23 (below_size (by repeat (first | (with_reducible first | exact HB.out | apply below_alloc | apply pw_below_drewN | apply below_drew1) | exact HB.out))));have n1_:=Aside0.mk (below_step (by repeat (first | (with_reducible first | exact HB.out | apply below_alloc | apply pw_below_drewN | apply below_drew1) | exact HB.out)) hb);clear HB;have HO446:=n0_;have HB:=n1_;clear n0_ n1_;clear hb ho23;have q24 : (0 : Int) ≤ ((l0.length : Int) : Int):=of_decide_eq_true (by first | (with_reducible assumption) | assumption);obtain ⟨i024,hi024,_,hsz24,_⟩:=info_parts info25;have hroom24 : l0.length ≤ c0:=HC0.out;have hC24 : Kd.C k25 _ A0 l0.length l0:=HR0.out;have hcut24:=cut_from (P:=Try.prog) 22 25 .i64 Try.underlying22 hi024 2 hsz24 A0 l0.length c0 0 (by omega) q24;have hr24:=Kd.C_drop (m:=(0 : Int).toNat) (c:=c0) hC24 (by omega) hroom24;obtain ⟨A24,hA24⟩ : ∃ A1,A1 = (if c0 = (0 : Int).toNat then A0 else (A0 : Option Addr).map (·.add ((0 : Int).toNat * 2))):=⟨_,rfl⟩;obtain ⟨c24,hc24⟩ : ∃ c1,c1 = c0 - (0 : Int).toNat:=⟨_,rfl⟩;have hy24 : y447.length = l0.length - (0 : Int).toNat:=(by rw [Ny447.out,List.length_drop] <;> omega);rw [show (l0).drop (0 : Int).toNat = y447 from Ny447.out.symm] at hr24;replace hr24 : Kd.C k25 _ A24 y447.length y447:=(by rw [hA24];exact hr24);rw [← hy24,← hA24,← hc24] at hcut24;have HR450:=Aside0.mk hr24;have HC450:=Aside0.mk (show y447.length ≤ c24 from by rw [hy24,hc24];exact Nat.sub_le_sub_right hroom24 _);clear hr24 hC24 hroom24 hi024 hsz24 hc24;have KY24:=Aside0.mk hy24;have KA24:=Aside0.mk hA24;clear hy24 hA24;replace q24:=eq_true q24) | ((with_reducible refine gate_builtin (b:=.append) (xs:=#[.tmp 13,.tmp 19]) rfl ?_);at_builtin;refine Kd.R_append_rows k25 (w0:=w) w.heap.size rfl (.tmp 13) (.tmp 19) 22 25 (.agg #[(.int .u64 0),(.int .u64 0)]) 16 rfl Try.underlying22 info25 rfl (by decide) (by omega) v445 y444 y447 _ _ _ (fun _ => True) (fun _ => False) rfl rfl ?aO ?aR (fun _ _ h => h) (fun _ h => h.elim) ?aF ?aB ?aS ?aL ?_;(case aR => repeat (first | exact (Kd.C_below HR450.out HB.out) | (with_reducible refine Kd.C_alloc ?_ _) | (with_reducible refine Kd.C_drewN ?_ _) | (with_reducible refine Kd.C_drew ?_)));(case aB => exact (by repeat (first | (with_reducible first | exact HB.out | apply below_alloc | apply pw_below_drewN | apply below_drew1) | exact HB.out)));(case aF => exact (fun _ _ => trivial));(case aO => exact (by (with_reducible repeat (first | apply Kd.R_alloc | apply Kd.R_drewN | apply Kd.R_drew));exact HO446.out));(case aS => exact (below_size (by repeat (first | (with_reducible first | exact HB.out | apply below_alloc | apply pw_below_drewN | apply below_drew1) | exact HB.out))));(case aL => have:=LMc21.out;omega);intro v452 w25 ho hb hg hat;rw [← Ny451.out] at ho;have n0_:=Aside0.mk (hb);have n1_:=Aside0.mk (ho);clear HB;clear HO446;have HB:=n0_;have HO453:=n1_;clear n0_ n1_;clear ho hb hg hat))
     go_ret
     exact ⟨_,by first | rfl | (simp [errW_none,errW_some] <;> rfl) | (simp [*,errW_none,errW_some] <;> rfl),by (with_reducible repeat (first | apply Kd.R_alloc | apply Kd.R_drewN | apply Kd.R_drew));exact HO453.out,by repeat (first | (with_reducible first | exact HB.out | apply below_alloc | apply pw_below_drewN | apply below_drew1) | exact HB.out)⟩
    ·rw [if_neg c21] at H
     exact absurd H (by simp)
   ·rw [if_neg c20] at H
    exact absurd H (by simp)
  ·rw [if_neg c19] at H
   have c19b0 : decide ((l0.length : Int) < a1) = false:=decide_eq_false c19
   clear c19
   obtain ⟨y454,hy454⟩ : ∃ y_ : List (S25),y_ = (([] : List (S25))):=⟨_,rfl⟩
   replace H : (if 0 ≤ (wrap64 ((l0.length : Int) - a1)) then (if (wrap64 ((l0.length : Int) - a1)) ≤ (l0.length : Int) then ((some (l0.drop ((wrap64 ((l0.length : Int) - a1)) : Int).toNat : List (S25))).bind fun y457 => (if y454.length + y457.length < 8796093022208 then (some (y454 ++ y457)) else (none))) else (none)) else (none)) = some r:=by first | (rw [hy454];with_reducible exact H) | (have H2_:=(Option.bind_some _ _).symm.trans H;rw [hy454];with_reducible exact H2_) | (have H2_:=(Option.bind_some _ _).symm.trans H;with_reducible exact H2_) | with_reducible exact H | (rw [hy454];exact H) | exact H
   have Ny454:=Aside0.mk hy454
   clear hy454
   obtain ⟨ji26,hji26⟩ : ∃ j_ : Int,(wrap64 ((l0.length : Int) - a1)) = j_:=⟨_,rfl⟩
   replace H : (if 0 ≤ (ji26) then (if (ji26) ≤ (l0.length : Int) then ((some (l0.drop ((ji26) : Int).toNat : List (S25))).bind fun y457 => (if y454.length + y457.length < 8796093022208 then (some (y454 ++ y457)) else (none))) else (none)) else (none)) = some r:=by first | (rw [hji26] at H;exact H) | (simp only [hji26] at H ⊢;exact H)
   have hji26w : (IntKind.i64.wrap ((l0.length : Int) - a1)) = ji26:=(i64_w _).trans hji26
   by_cases c27 : 0 ≤ (ji26)
   ·rw [if_pos c27] at H
    have c27b0:=eq_true c27
    have c27b1 : decide (0 ≤ (ji26)) = true:=decide_eq_true c27
    clear c27
    by_cases c28 : (ji26) ≤ (l0.length : Int)
    ·rw [if_pos c28] at H
     have c28b0:=eq_true c28
     have c28b1 : decide ((ji26) ≤ (l0.length : Int)) = true:=decide_eq_true c28
     clear c28
     obtain ⟨y457,hy457⟩ : ∃ y_ : List (S25),y_ = (l0.drop ((ji26) : Int).toNat):=⟨_,rfl⟩
     replace H : (if y454.length + y457.length < 8796093022208 then (some (y454 ++ y457)) else (none)) = some r:=by first | (rw [hy457];with_reducible exact H) | (have H2_:=(Option.bind_some _ _).symm.trans H;rw [hy457];with_reducible exact H2_) | (have H2_:=(Option.bind_some _ _).symm.trans H;with_reducible exact H2_) | with_reducible exact H | (rw [hy457];exact H) | exact H
     have Ny457:=Aside0.mk hy457
     clear hy457
     by_cases c29 : y454.length + y457.length < 8796093022208
     ·rw [if_pos c29] at H
      have LMc29:=Aside0.mk c29
      clear c29
      obtain ⟨y461,hy461⟩ : ∃ y_ : List (S25),y_ = (y454 ++ y457):=⟨_,rfl⟩
      replace H : (some y461) = some r:=by first | (rw [hy461];with_reducible exact H) | (have H2_:=(Option.bind_some _ _).symm.trans H;rw [hy461];with_reducible exact H2_) | (have H2_:=(Option.bind_some _ _).symm.trans H;with_reducible exact H2_) | with_reducible exact H | (rw [hy461];exact H) | exact H
      have Ny461:=Aside0.mk hy461
      clear hy461
      obtain rfl:=Option.some.inj H
      go_enter Try.func24,Try.ntmps24
      go_wp2_with (first | ((with_reducible refine gate_dst (N:=13) rfl ?_);refine Kd.R_lit k25 _ 25 ?hg (N:=13) ?hd (xs:=([] : List (S25))) (inner:=[]) (ok:=fun _ => True) (okp:=fun _ => True) ?hr ?hp (fun _ hk => hk) trivial (Below.refl _ _) (Nat.le_refl _) (by simp) ?_;(case hd => rfl);(case hg => rfl);(case hr => first | (go_simp;done) | (go_simp;rfl));(case hp => exact (Reps.none _ _));intro v455 w30 ho31 hb hg_ hnew_;clear hg_ hnew_;(first | rw [← Ny454.out] at ho31 | (simp only [Int.reduceToNat] at ho31;rw [← Ny454.out] at ho31));have n0_:=Aside0.mk (Kd.R_lower ho31 (below_size (by repeat (first | (with_reducible first | exact HB.out | apply below_alloc | apply pw_below_drewN | apply below_drew1) | exact HB.out))));have n1_:=Aside0.mk (below_step (by repeat (first | (with_reducible first | exact HB.out | apply below_alloc | apply pw_below_drewN | apply below_drew1) | exact HB.out)) hb);clear HB;have HO456:=n0_;have HB:=n1_;clear n0_ n1_;clear hb ho31;have q32 : ((ji26) : Int) ≤ ((l0.length : Int) : Int):=of_decide_eq_true (by first | (with_reducible assumption) | assumption);obtain ⟨i032,hi032,_,hsz32,_⟩:=info_parts info25;have hroom32 : l0.length ≤ c0:=HC0.out;have hC32 : Kd.C k25 _ A0 l0.length l0:=HR0.out;have q032 : (0 : Int) ≤ ((ji26) : Int):=of_decide_eq_true (by first | (with_reducible assumption) | assumption);have hcut32:=cut_from (P:=Try.prog) 22 25 .i64 Try.underlying22 hi032 2 hsz32 A0 l0.length c0 (ji26) q032 q32;have hr32:=Kd.C_drop (m:=((ji26) : Int).toNat) (c:=c0) hC32 (by omega) hroom32;obtain ⟨A32,hA32⟩ : ∃ A1,A1 = (if c0 = ((ji26) : Int).toNat then A0 else (A0 : Option Addr).map (·.add (((ji26) : Int).toNat * 2))):=⟨_,rfl⟩;obtain ⟨c32,hc32⟩ : ∃ c1,c1 = c0 - ((ji26) : Int).toNat:=⟨_,rfl⟩;have hy32 : y457.length = l0.length - ((ji26) : Int).toNat:=(by rw [Ny457.out,List.length_drop] <;> omega);rw [show (l0).drop ((ji26) : Int).toNat = y457 from Ny457.out.symm] at hr32;replace hr32 : Kd.C k25 _ A32 y457.length y457:=(by rw [hA32];exact hr32);rw [← hy32,← hA32,← hc32] at hcut32;have HR460:=Aside0.mk hr32;have HC460:=Aside0.mk (show y457.length ≤ c32 from by rw [hy32,hc32];exact Nat.sub_le_sub_right hroom32 _);clear hr32 hC32 hroom32 hi032 hsz32 hc32;have KY32:=Aside0.mk hy32;have KA32:=Aside0.mk hA32;clear hy32 hA32;replace q32:=eq_true q32) | ((with_reducible refine gate_builtin (b:=.append) (xs:=#[.tmp 13,.tmp 19]) rfl ?_);at_builtin;refine Kd.R_append_rows k25 (w0:=w) w.heap.size rfl (.tmp 13) (.tmp 19) 22 25 (.agg #[(.int .u64 0),(.int .u64 0)]) 16 rfl Try.underlying22 info25 rfl (by decide) (by omega) v455 y454 y457 _ _ _ (fun _ => True) (fun _ => False) rfl rfl ?aO ?aR (fun _ _ h => h) (fun _ h => h.elim) ?aF ?aB ?aS ?aL ?_;(case aR => repeat (first | exact (Kd.C_below HR460.out HB.out) | (with_reducible refine Kd.C_alloc ?_ _) | (with_reducible refine Kd.C_drewN ?_ _) | (with_reducible refine Kd.C_drew ?_)));(case aB => exact (by repeat (first | (with_reducible first | exact HB.out | apply below_alloc | apply pw_below_drewN | apply below_drew1) | exact HB.out)));(case aF => exact (fun _ _ => trivial));(case aO => exact (by (with_reducible repeat (first | apply Kd.R_alloc | apply Kd.R_drewN | apply Kd.R_drew));exact HO456.out));(case aS => exact (below_size (by repeat (first | (with_reducible first | exact HB.out | apply below_alloc | apply pw_below_drewN | apply below_drew1) | exact HB.out))));(case aL => have:=LMc29.out;omega);intro v462 w33 ho hb hg hat;rw [← Ny461.out] at ho;have n0_:=Aside0.mk (hb);have n1_:=Aside0.mk (ho);clear HB;clear HO456;have HB:=n0_;have HO463:=n1_;clear n0_ n1_;clear ho hb hg hat))
      go_ret
      exact ⟨_,by first | rfl | (simp [errW_none,errW_some] <;> rfl) | (simp only [← hji26];first | rfl | (simp [errW_none,errW_some] <;> rfl)) | (simp [*,errW_none,errW_some] <;> rfl),by (with_reducible repeat (first | apply Kd.R_alloc | apply Kd.R_drewN | apply Kd.R_drew));exact HO463.out,by repeat (first | (with_reducible first | exact HB.out | apply below_alloc | apply pw_below_drewN | apply below_drew1) | exact HB.out)⟩
     ·rw [if_neg c29] at H
      exact absurd H (by simp)
    ·rw [if_neg c28] at H
     exact absurd H (by simp)
   ·rw [if_neg c27] at H
    exact absurd H (by simp)

end Go.Proofs.Ytgaccappklhojaa.P
