/- Parts of a text that come in whatever order are read as a beginning of the text, and at last as all of it. -/
import Derived.Test.YtndfddejdfnleaaXa
import Derived.Test.YtndfddejdfnleaaStmGatherPrefix
import Derived.Test.YtndfddejdfnleaaPx18
namespace Go.Proofs.Ytndfddejdfnleaa.Pure
open Go.RowKit Go.Proofs.Ytndfddejdfnleaa.P Go.Proofs.YtndfddejdfnleaaW.PrintWords Go.Proofs.YtndfddejdfnleaaW.PrintLast Go.Proofs.YtndfddejdfnleaaW.PrintMore
set_option linter.unusedVariables false
set_option linter.unusedSectionVars false
theorem wid {x : Int} (h0 : 0 ≤ x) (h1 : x ≤ 9223372036854775807) : IntKind.u64.wrap x = x := by rw [IntKind.wrap_u64]; omega
/-- A list of spans within bounds is short. -/
theorem ok_len {hi : Int} : ∀ {l : List Sp} {lo : Int}, Ok l → (∀ x, Mem x l → lo ≤ x ∧ x < hi) → lo ≤ hi → (l.length : Int) ≤ hi - lo
  | [], lo, _, _, h => by simp; omega
  | s :: t, lo, ho, hm, h => by
    obtain ⟨h1, h2, h3⟩ := ok_cons.mp ho
    have a1 := hm s.f0 (ok_mem ho (List.mem_cons_self ..))
    have a2 := hm (s.f1 - 1) ⟨s, List.mem_cons_self .., by omega, by omega⟩
    have h4 : ∀ x, Mem x t → s.f1 ≤ x ∧ x < hi := by
      intro x hx
      have h5 := (hm x (mem_cons.mpr (.inr hx))).2
      obtain ⟨u, hu, q⟩ := hx
      have := h2 u hu
      omega
    have := ok_len h3 h4 (by omega)
    simp only [List.length_cons]
    omega
theorem ok_short {l : List Sp} {lo hi : Int} (h : Ok l) (hm : ∀ x, Mem x l → lo ≤ x ∧ x < hi) (h0 : 0 ≤ lo) (h1 : hi ≤ 300) : l.length ≤ 300 := by
  by_cases c : lo ≤ hi
  · have := ok_len h hm c
    omega
  · cases l with
    | nil => simp
    | cons s t =>
      have := hm s.f0 (ok_mem h (List.mem_cons_self ..))
      omega
theorem splice_at {d l : List Int} {i : Nat} (h : i + l.length ≤ d.length) (j : Nat) : (splice d i l)[j]? = if i ≤ j ∧ j < i + l.length then l[j - i]? else d[j]? := by
  unfold splice
  by_cases c : j < i
  · rw [List.getElem?_append_left (by rw [List.length_take]; omega), List.getElem?_take, if_pos c, if_neg (by omega)]
  · rw [List.getElem?_append_right (by rw [List.length_take]; omega), List.length_take, Nat.min_eq_left (by omega)]
    by_cases e : j < i + l.length
    · rw [List.getElem?_append_left (by omega), if_pos ⟨by omega, e⟩]
    · rw [List.getElem?_append_right (by omega), List.getElem?_drop, if_neg (by omega)]
      congr 1
      omega
/-- What is fresh of a part. -/
theorem cuts_ok : ∀ {l x : List Sp} {lo hi : Int}, Ok x → (∀ n, Mem n x → lo ≤ n ∧ n < hi) → 0 ≤ lo → hi ≤ 300 → ∃ y, gather_Put.cuts x l = some y ∧ Ok y ∧ ∀ n, Mem n y ↔ Mem n x ∧ ¬ Mem n l
  | [], x, lo, hi, ho, hm, h0, h1 => ⟨x, rfl, ho, fun n => ⟨fun q => ⟨q, mem_nil⟩, fun q => q.1⟩⟩
  | s :: t, x, lo, hi, ho, hm, h0, h1 => by
    have hl := ok_short ho hm h0 h1
    obtain ⟨o1, m1⟩ := cutS_ok (a := s.f0) (b := s.f1) ho
    obtain ⟨y, hy, oy, my⟩ := cuts_ok (l := t) o1 (fun n hn => hm n ((m1 n).mp hn).1) h0 h1
    refine ⟨y, ?_, oy, fun n => ?_⟩
    · unfold gather_Put.cuts
      rw [cut_eq (by omega), Option.bind_some]
      exact hy
    · rw [my n, m1 n, mem_cons]
      constructor
      · intro ⟨⟨q1, q2⟩, q3⟩
        exact ⟨q1, fun q => q.elim q2 q3⟩
      · intro ⟨q1, q2⟩
        exact ⟨⟨q1, fun q => q2 (.inl q)⟩, fun q => q2 (.inr q)⟩
/-- The fresh places get the text's bytes, all others stay. -/
theorem lays_ok {p q : List Int} {nx off te : Int} (h0 : 0 ≤ nx) (h1 : 0 ≤ off) (h2 : te ≤ (p.length : Int)) (h3 : p.length ≤ 300) (hq : q = (p.take te.toNat).drop off.toNat) : ∀ (F : List Sp) (d : List Int), (∀ s ∈ F, nx ≤ s.f0 ∧ off ≤ s.f0 ∧ s.f0 < s.f1 ∧ s.f1 ≤ te) → te - nx ≤ (d.length : Int) → d.length ≤ 300 →
    ∃ d2, gather_Put.lays nx off q d F = some d2 ∧ d2.length = d.length ∧ ∀ x : Int, nx ≤ x → (Mem x F → d2[(x - nx).toNat]? = p[x.toNat]?) ∧ (¬ Mem x F → d2[(x - nx).toNat]? = d[(x - nx).toNat]?)
  | [], d, _, _, _ => ⟨d, rfl, rfl, fun x _ => ⟨fun q => absurd q mem_nil, fun _ => rfl⟩⟩
  | s :: t, d, hs, hd, hd2 => by
    obtain ⟨a1, a2, a3, a4⟩ := hs s (List.mem_cons_self ..)
    have hql : (q.length : Int) = te - off := by rw [hq, List.length_drop, List.length_take]; omega
    have hsg : (gather_Put_1.seg q (s.f0 - off).toNat ((s.f1 - nx).toNat - (s.f0 - nx).toNat)).length = (s.f1 - s.f0).toNat := by
      unfold gather_Put_1.seg
      rw [List.length_take, List.length_drop]
      omega
    have hsp := splice_at (d := d) (l := gather_Put_1.seg q (s.f0 - off).toNat ((s.f1 - nx).toNat - (s.f0 - nx).toNat)) (i := (s.f0 - nx).toNat) (by rw [hsg]; omega)
    have hlen := splice_length d (s.f0 - nx).toNat (gather_Put_1.seg q (s.f0 - off).toNat ((s.f1 - nx).toNat - (s.f0 - nx).toNat)) (by rw [hsg]; omega)
    obtain ⟨d2, e1, e2, e3⟩ := lays_ok h0 h1 h2 h3 hq t (splice d (s.f0 - nx).toNat (gather_Put_1.seg q (s.f0 - off).toNat ((s.f1 - nx).toNat - (s.f0 - nx).toNat))) (fun u hu => hs u (List.mem_cons_of_mem _ hu)) (by rw [hlen]; exact hd) (by omega)
    refine ⟨d2, ?_, by omega, fun x hx => ⟨fun m => ?_, fun m => ?_⟩⟩
    · unfold gather_Put.lays gather_Put.lay
      rw [if_pos ⟨a1, a2, a3, by omega, by omega, by omega, by omega⟩, Option.bind_some]
      exact e1
    · by_cases c : Mem x t
      · exact (e3 x hx).1 c
      · rw [(e3 x hx).2 c, hsp]
        have hin : s.f0 ≤ x ∧ x < s.f1 := (mem_cons.mp m).resolve_right c
        rw [if_pos ⟨by omega, by rw [hsg]; omega⟩]
        unfold gather_Put_1.seg
        rw [List.getElem?_take, if_pos (by omega), List.getElem?_drop, hq, List.getElem?_drop, List.getElem?_take, if_pos (by omega)]
        congr 1
        omega
    · have c1 : ¬ (s.f0 ≤ x ∧ x < s.f1) := fun q => m (mem_cons.mpr (.inl q))
      have c2 : ¬ Mem x t := fun q => m (mem_cons.mpr (.inr q))
      rw [(e3 x hx).2 c2, hsp, if_neg (by rw [hsg]; omega)]
/-- What stands: all that is known is the text's. -/
structure GI (p : List Int) (nx : Int) (K : List Sp) (D : List Int) (en : Bool) (sz : Int) (got : List Int) : Prop where
  h0 : nx = (got.length : Int)
  h1 : got.length ≤ p.length
  hg : got = p.take got.length
  ok : Ok K
  bk : ∀ x, Mem x K → nx ≤ x ∧ x < (p.length : Int)
  dk : ∀ x, Mem x K → D[(x - nx).toNat]? = p[x.toNat]?
  dl : D.length ≤ 300
  hz : en = true → sz = (p.length : Int)
section
variable {p : List Int} {nx : Int} {K : List Sp} {D : List Int} {en : Bool} {sz : Int} {got : List Int} (hn : p.length ≤ 300) (H : GI p nx K D en sz got)
include hn H
theorem high_le : ∃ hi, gather_High.f nx K D en sz = some hi ∧ hi ≤ (p.length : Int) := by
  have hl := ok_short H.ok H.bk (by have := H.h0; omega) (by omega)
  unfold gather_High.f
  by_cases c : (K.length : Int) > 0
  · have w : wrap64 ((K.length : Int) - 1) = ((K.length - 1 : Nat) : Int) := by unfold wrap64; omega
    rw [if_pos c, w, if_pos (by omega), if_pos (by omega)]
    refine ⟨_, rfl, ?_⟩
    have hj : K.length - 1 < K.length := by omega
    rw [sp_rd hj]
    have q0 := H.ok.1 _ (List.getElem_mem hj)
    have q := H.bk ((K[K.length - 1]'hj).f1 - 1) ⟨_, List.getElem_mem hj, by omega, by omega⟩
    omega
  · rw [if_neg c]
    exact ⟨_, rfl, by have := H.h0; have := H.h1; omega⟩
/-- A part that is put in. -/
theorem put_body {fr te : Int} {k : Nat} (hk : 1000 ≤ k) (h2 : 0 ≤ fr) (h3 : fr ≤ te) (h4 : te ≤ (p.length : Int)) (en2 : Bool) (sz2 : Int) (hz2 : en2 = true → sz2 = (p.length : Int)) :
    ∃ K2 D2, gather_Put.body k nx K D en2 sz2 fr ((p.take te.toNat).drop fr.toNat) te = some (nx, K2, D2, en2, sz2, 0) ∧ GI p nx K2 D2 en2 sz2 got ∧ ∀ x, Mem x K2 ↔ Mem x K ∨ (fr ≤ x ∧ nx ≤ x ∧ x < te) := by
  have hnx : 0 ≤ nx := by have := H.h0; omega
  have hl := ok_short H.ok H.bk hnx (by omega)
  have hm : fr ≤ mx fr nx ∧ nx ≤ mx fr nx ∧ (mx fr nx = fr ∨ mx fr nx = nx) := by unfold mx; split <;> omega
  unfold gather_Put.body
  generalize mx fr nx = f2 at hm ⊢
  by_cases c : te ≤ f2
  · rw [if_pos c]
    exact ⟨_, _, rfl, { H with hz := hz2 }, fun x => ⟨.inl, fun q => q.elim id (fun q => by omega)⟩⟩
  · rw [if_neg c]
    have o1 : Ok [(⟨f2, te⟩ : Sp)] := ok_one (by show f2 < te; omega)
    obtain ⟨F, hF, oF, mF⟩ := cuts_ok (l := K) (lo := nx) (hi := te) o1 (fun x q => by have := mem_one.mp q; simp only at this; omega) hnx (by omega)
    have bF : ∀ x, Mem x F → f2 ≤ x ∧ x < te := fun x q => mem_one.mp ((mF x).mp q).1
    have lF := ok_short oF bF (by omega) (by omega)
    have gl : te - nx ≤ ((gather_Put.grow D (te - nx)).length : Int) ∧ (gather_Put.grow D (te - nx)).length ≤ 300 := by
      have := H.dl
      unfold gather_Put.grow
      split
      · simp only [List.length_append, List.length_replicate]; omega
      · omega
    have gk : ∀ x, Mem x K → (gather_Put.grow D (te - nx))[(x - nx).toNat]? = p[x.toNat]? := by
      intro x q
      have b := H.bk x q
      have e := H.dk x q
      have hlt : (x - nx).toNat < D.length := by
        rcases Nat.lt_or_ge (x - nx).toNat D.length with r | r
        · exact r
        · rw [List.getElem?_eq_none r, List.getElem?_eq_getElem (show x.toNat < p.length by omega)] at e
          cases e
      rw [← e]
      unfold gather_Put.grow
      split
      · rw [List.getElem?_append_left hlt]
      · rfl
    obtain ⟨D2, hD, lD, pD⟩ := lays_ok (p := p) (q := (p.take te.toNat).drop fr.toNat) (te := te) hnx h2 h4 hn rfl F (gather_Put.grow D (te - nx)) (fun s hs => by
      have a1 := oF.1 s hs
      have a2 := bF s.f0 (ok_mem oF hs)
      have a3 := bF (s.f1 - 1) ⟨s, hs, by omega, by omega⟩
      omega) gl.1 gl.2
    obtain ⟨o3, m3⟩ := addS_ok (a := f2) (b := te) H.ok
    rw [hF, Option.bind_some, if_pos (by omega), hD, Option.bind_some, add_eq (by omega) (by omega), Option.bind_some]
    have hmem : ∀ x, Mem x (addS K f2 te) ↔ Mem x K ∨ (fr ≤ x ∧ nx ≤ x ∧ x < te) := by
      intro x
      rw [m3 x]
      constructor
      · intro q
        rcases q with q | q
        · exact .inl q
        · exact .inr (by omega)
      · intro q
        rcases q with q | q
        · exact .inl q
        · exact .inr (by omega)
    refine ⟨_, _, rfl, { H with ok := o3, bk := fun x q => ?_, dk := fun x q => ?_, dl := by omega, hz := hz2 }, hmem⟩
    · rcases (hmem x).mp q with r | r
      · exact H.bk x r
      · omega
    · have hx : nx ≤ x := by
        rcases (hmem x).mp q with r | r
        · exact (H.bk x r).1
        · omega
      by_cases r : Mem x F
      · exact (pD x hx).1 r
      · rw [(pD x hx).2 r]
        refine gk x ?_
        rcases (m3 x).mp q with u | u
        · exact u
        · by_cases v : Mem x K
          · exact v
          · exact absurd ((mF x).mpr ⟨mem_one.mpr u, v⟩) r
theorem put_ok {fr te : Int} {k : Nat} (hk : 1000 ≤ k) (h2 : 0 ≤ fr) (h3 : fr ≤ te) (h4 : te ≤ (p.length : Int)) :
    ∃ K2 D2 en2 sz2, gather_Put.f k nx K D en sz fr ((p.take te.toNat).drop fr.toNat) (te == (p.length : Int)) = some (nx, K2, D2, en2, sz2, 0) ∧ GI p nx K2 D2 en2 sz2 got ∧ (∀ x, Mem x K2 ↔ Mem x K ∨ (fr ≤ x ∧ nx ≤ x ∧ x < te)) ∧ (te = (p.length : Int) → en2 = true) := by
  have hnx : 0 ≤ nx ∧ nx ≤ 300 := by have := H.h0; have := H.h1; omega
  have hl := ok_short H.ok H.bk hnx.1 (by omega)
  have hd := H.dl
  have hql : fr + (((p.take te.toNat).drop fr.toNat).length : Int) = te := by rw [List.length_drop, List.length_take]; omega
  unfold gather_Put.f
  rw [if_pos ⟨by omega, by omega, by omega, by omega, by omega, by omega⟩, hql, if_neg (by
    intro q
    have := H.hz q.1
    omega)]
  by_cases c : te = (p.length : Int)
  · obtain ⟨hi, e1, e2⟩ := high_le hn H
    have hb : (te == (p.length : Int)) = true := beq_iff_eq.mpr c
    rw [hb, if_pos rfl, e1, Option.bind_some, if_neg (by
      intro q
      rcases q with q | q
      · have := H.hz q.1; omega
      · omega)]
    obtain ⟨K2, D2, f1, f2, f3⟩ := put_body hn H hk h2 h3 h4 true te (fun _ => c)
    exact ⟨K2, D2, true, te, f1, f2, f3, fun _ => rfl⟩
  · have hb : (te == (p.length : Int)) = false := beq_eq_false_iff_ne.mpr c
    rw [hb, if_neg (by decide)]
    obtain ⟨K2, D2, f1, f2, f3⟩ := put_body hn H hk h2 h3 h4 en sz H.hz
    exact ⟨K2, D2, en, sz, f1, f2, f3, fun q => absurd q c⟩
/-- How much may be read: the first span's, if it begins at the next place. -/
theorem ready_ok {k : Nat} (hk : 1 ≤ k) : ∃ r : Int, gather_Ready.f k nx K D en sz = some r ∧ 0 ≤ r ∧ nx + r ≤ (p.length : Int) ∧ (∀ x, nx ≤ x → x < nx + r → Mem x K) ∧ (∀ (a : Int), K = [⟨nx, a⟩] → r = a - nx) := by
  obtain ⟨k, rfl⟩ : ∃ m, k = m + 1 := ⟨k - 1, by omega⟩
  have hnx : 0 ≤ nx ∧ nx ≤ (p.length : Int) := by have := H.h0; have := H.h1; omega
  unfold gather_Ready.f
  cases K with
  | nil =>
    rw [if_pos (by rfl)]
    exact ⟨0, rfl, by omega, by omega, fun x h1 h2 => by omega, fun a q => by cases q⟩
  | cons s t =>
    have hr : rd_T41 (s :: t) 0 = s := sp_rd (l := s :: t) (j := 0) (by simp)
    rw [if_neg (by simp only [List.length_cons]; omega), if_pos (by simp only [List.length_cons]; omega), hr]
    have q0 := (ok_cons.mp H.ok).1
    have q1 := H.bk s.f0 (ok_mem H.ok (List.mem_cons_self ..))
    have q2 := H.bk (s.f1 - 1) ⟨s, List.mem_cons_self .., by omega, by omega⟩
    by_cases c : s.f0 = nx
    · have hb : (s.f0 != nx) = false := by rw [c]; simp
      have w1 : IntKind.u64.wrap (s.f1 - nx) = s.f1 - nx := wid (by omega) (by omega)
      have w2 : wrap64 (s.f1 - nx) = s.f1 - nx := by unfold wrap64; omega
      rw [hb, gather_Ready.j0, if_neg (by decide), if_pos (by simp only [List.length_cons]; omega), hr, w1, w2]
      refine ⟨_, rfl, by omega, by omega, fun x h1 h2 => ⟨s, List.mem_cons_self .., by omega, by omega⟩, fun a q => ?_⟩
      injection q with q _
      rw [q]
    · have hb : (s.f0 != nx) = true := by simp [c]
      rw [hb, gather_Ready.j0, if_pos rfl]
      refine ⟨0, rfl, by omega, by omega, fun x h1 h2 => by omega, fun a q => ?_⟩
      injection q with q _
      rw [q] at c
      exact absurd rfl c
theorem read_ok {k : Nat} (hk : 1 ≤ k) (rd : Int) : ∃ r n2 K2 D2 b over, gather_Ready.f k nx K D en sz = some r ∧ gather_Read.f k nx K D en sz rd = some (n2, K2, D2, en, sz, b, over) ∧ pre_ok p got b over rd ∧ GI p n2 K2 D2 en sz (got ++ b) ∧ (b.length : Int) = mx (mn rd r) 0 ∧ over = (en && (n2 == sz)) ∧ (∀ (a : Int), K = [⟨nx, a⟩] → r = a - nx) := by
  obtain ⟨r, hr, r0, r1, r2, r3⟩ := ready_ok hn H hk
  have hnx : 0 ≤ nx ∧ nx ≤ (p.length : Int) := by have := H.h0; have := H.h1; omega
  have hl := ok_short H.ok H.bk hnx.1 (by omega)
  have hd := H.dl
  have hc : 0 ≤ mx (mn rd r) 0 ∧ mx (mn rd r) 0 ≤ r ∧ mx (mn rd r) 0 ≤ mx rd 0 := by unfold mx mn; (repeat' split) <;> omega
  obtain ⟨c, hcc⟩ : ∃ c : Nat, mx (mn rd r) 0 = (c : Int) := ⟨(mx (mn rd r) 0).toNat, by omega⟩
  rw [hcc] at hc
  have key : ∀ j : Nat, j < c → D[j]? = p[got.length + j]? := by
    intro j hj
    have e := H.dk (nx + (j : Int)) (r2 _ (by omega) (by omega))
    rw [show (nx + (j : Int) - nx).toNat = j by omega, show (nx + (j : Int)).toNat = got.length + j by have := H.h0; omega] at e
    exact e
  have hcd : c ≤ D.length := by
    rcases Nat.lt_or_ge D.length c with q | q
    · have e := key D.length q
      rw [List.getElem?_eq_none (Nat.le_refl _), List.getElem?_eq_getElem (show got.length + D.length < p.length by have := H.h0; omega)] at e
      cases e
    · exact q
  have hb : got ++ D.take c = p.take (got.length + c) := by
    apply List.ext_getElem?
    intro j
    rw [List.getElem?_take]
    by_cases q : j < got.length
    · rw [List.getElem?_append_left q, if_pos (by omega)]
      have e : got[j]? = (p.take got.length)[j]? := congrArg (fun l => l[j]?) H.hg
      rw [e, List.getElem?_take, if_pos q]
    · rw [List.getElem?_append_right (by omega), List.getElem?_take]
      by_cases q2 : j < got.length + c
      · rw [if_pos (by omega), if_pos q2, key _ (by omega)]
        congr 1
        omega
      · rw [if_neg (by omega), if_neg q2]
  have hbl : (D.take c).length = c := by rw [List.length_take]; omega
  have cl1 : bytes_Clone.f (D.take c) = some (D.take c) := by
    unfold bytes_Clone.f
    rw [Option.bind_some, if_pos (by simp; omega), List.nil_append]
  have cl2 : bytes_Clone.f (D.drop c) = some (D.drop c) := by
    unfold bytes_Clone.f
    rw [Option.bind_some, if_pos (by simp; omega), List.nil_append]
  have w1 : IntKind.u64.wrap (c : Int) = (c : Int) := wid (by omega) (by omega)
  have w2 : IntKind.u64.wrap (nx + (c : Int)) = nx + (c : Int) := wid (by omega) (by omega)
  obtain ⟨o2, m2⟩ := cutS_ok (a := nx) (b := nx + (c : Int)) H.ok
  have hgl : (got ++ D.take c).length = got.length + c := by rw [List.length_append, hbl]
  have hGI : GI p (nx + (c : Int)) (cutS K nx (nx + (c : Int))) (D.drop c) en sz (got ++ D.take c) := by
    refine { h0 := by rw [hgl]; have := H.h0; omega, h1 := by rw [hgl]; have := H.h0; omega, hg := by rw [hgl]; exact hb, ok := o2, bk := fun x q => ?_, dk := fun x q => ?_, dl := by rw [List.length_drop]; omega, hz := H.hz }
    · obtain ⟨q1, q2⟩ := (m2 x).mp q
      have := H.bk x q1
      omega
    · obtain ⟨q1, q2⟩ := (m2 x).mp q
      have := H.bk x q1
      rw [List.getElem?_drop, ← H.dk x q1]
      congr 1
      omega
  have hE : gather_Read.f k nx K D en sz rd = some (nx + (c : Int), cutS K nx (nx + (c : Int)), D.drop c, en, sz, D.take c, (en && (nx + (c : Int) == sz))) := by
    unfold gather_Read.f
    rw [hr, Option.bind_some, hcc, if_pos (by omega), if_pos (by omega), Int.toNat_natCast, cl1, Option.bind_some, cl2, Option.bind_some, w1, w2, cut_eq (by omega), Option.bind_some]
    cases en with
    | true => rw [if_pos rfl]; rfl
    | false => rw [if_neg (by decide)]; rfl
  have hover : (en && (nx + (c : Int) == sz)) = true → got.length + (D.take c).length = p.length := by
    intro q
    simp only [Bool.and_eq_true, beq_iff_eq] at q
    have := H.hz q.1
    have := H.h0
    omega
  have hok : pre_ok p got (D.take c) (en && (nx + (c : Int) == sz)) rd := ⟨by have := H.h0; omega, by rw [hbl]; exact hb, hover, by omega⟩
  exact ⟨r, nx + (c : Int), cutS K nx (nx + (c : Int)), D.drop c, D.take c, (en && (nx + (c : Int) == sz)), hr, hE, hok, hGI, by rw [hbl, hcc], rfl, r3⟩
end
theorem pre_bd (p : List Int) (f s : Int) : 0 ≤ pre_from p f ∧ pre_from p f ≤ pre_to p f s ∧ pre_to p f s ≤ (p.length : Int) := by
  have h1 : 0 ≤ pre_from p f ∧ pre_from p f ≤ (p.length : Int) := by unfold pre_from mn mx; split <;> split <;> omega
  have h2 : 0 ≤ mn (mx s 0) ((p.length : Int) - pre_from p f) ∧ mn (mx s 0) ((p.length : Int) - pre_from p f) ≤ (p.length : Int) - pre_from p f := by unfold mn mx; split <;> split <;> omega
  unfold pre_to
  omega
theorem go_some {k : Nat} (hk : 1000 ≤ k) {p : List Int} (hn : p.length ≤ 300) (ps : List S30) : ∀ (n i : Nat) {nx : Int} {K : List Sp} {D : List Int} {en : Bool} {sz : Int} {got : List Int}, GI p nx K D en sz got → ∃ nx2 K2 D2 en2 sz2 got2, pre_go k p ps n i nx K D en sz got = some (nx2, K2, D2, en2, sz2, got2) ∧ GI p nx2 K2 D2 en2 sz2 got2
  | 0, i, nx, K, D, en, sz, got, H => ⟨_, _, _, _, _, _, rfl, H⟩
  | n + 1, i, nx, K, D, en, sz, got, H => by
    rw [pre_go]
    by_cases c : (i : Int) < (ps.length : Int)
    · rw [if_pos c]
      generalize rd_T30 ps (i : Int) = pt
      obtain ⟨b1, b2, b3⟩ := pre_bd p pt.f0 pt.f1
      obtain ⟨K2, D2, en2, sz2, e1, e2, _, _⟩ := put_ok hn H hk b1 b2 b3
      obtain ⟨r, n3, K3, D3, b, over, _, f1, f2, f3, _, _, _⟩ := read_ok hn e2 (show 1 ≤ k by omega) pt.f2
      rw [e1, Option.bind_some, if_pos rfl]
      show ∃ nx2 K2' D2' en2' sz2' got2, ((gather_Read.f k nx K2 D2 en2 sz2 pt.f2).bind _) = _ ∧ _
      rw [f1, Option.bind_some]
      show ∃ nx2 K2' D2' en2' sz2' got2, (if pre_ok p got b over pt.f2 then _ else none) = _ ∧ _
      rw [if_pos f2]
      exact go_some hk hn ps n (i + 1) f3
    · rw [if_neg c]
      exact ⟨_, _, _, _, _, _, rfl, H⟩
theorem GatherPrefix : wigwaglaw17_GatherPrefix.Pure := by
  intro l0 l1 _ _ _ _
  refine ⟨1000, ?_⟩
  unfold wigwaglaw17_GatherPrefix.f
  by_cases c : (l0.length : Int) > 300
  · rw [if_pos c]
  have hn : l0.length ≤ 300 := by omega
  have H0 : GI l0 0 [] [] false 0 [] := { h0 := rfl, h1 := by simp, hg := rfl, ok := ok_nil, bk := fun x q => absurd q mem_nil, dk := fun x q => absurd q mem_nil, dl := by simp, hz := fun q => by cases q }
  obtain ⟨nx, K, D, en, sz, got, e1, H⟩ := go_some (k := 1000) (by decide) hn l1 50 0 H0
  obtain ⟨K2, D2, en2, sz2, f1, f2, f3, f4⟩ := put_ok hn H (k := 1000) (fr := 0) (te := (l0.length : Int)) (by decide) (by omega) (by omega) (by omega)
  have hen := f4 rfl
  have hsz := f2.hz hen
  have ht : (l0.take (l0.length : Int).toNat).drop (0 : Int).toNat = l0 := by simp
  have hb : ((l0.length : Int) == (l0.length : Int)) = true := by simp
  rw [ht, hb] at f1
  obtain ⟨r, n3, K3, D3, b, over, g0, g1, g2, g3, g4, g5, g6⟩ := read_ok hn f2 (k := 1000) (by decide) 1000
  rw [if_neg c, e1, Option.bind_some]
  show ((gather_Put.f 1000 nx K D en sz 0 l0 true).bind _) = _
  rw [f1, Option.bind_some, if_pos rfl]
  show ((gather_Read.f 1000 nx K2 D2 en2 sz2 1000).bind _) = _
  rw [g1, Option.bind_some]
  have hnx : nx = (got.length : Int) := H.h0
  have hgl := H.h1
  have hall : got.length + b.length = l0.length := by
    by_cases q : got.length = l0.length
    · have := g2.1
      omega
    · have hK : K2 = [⟨nx, (l0.length : Int)⟩] := by
        refine ok_ext f2.ok (ok_one (by show nx < (l0.length : Int); omega)) (fun x => ?_)
        rw [mem_one]
        constructor
        · intro m
          exact f2.bk x m
        · intro m
          exact (f3 x).mpr (.inr ⟨by simp only at m; omega, m.1, m.2⟩)
      have hr := g6 _ hK
      have : mx (mn 1000 r) 0 = (l0.length : Int) - nx := by unfold mx mn; (repeat' split) <;> omega
      omega
  have hn3 : n3 = (l0.length : Int) := by have := g3.h0; rw [List.length_append] at this; omega
  have ho : over = true := by rw [g5, hen, hsz, hn3]; simp
  refine if_pos ⟨ho, ?_, by show got.length ≤ 300; omega, by show b.length ≤ 300; omega⟩
  show got ++ b = l0
  rw [g2.2.1, hall, List.take_length]
end Go.Proofs.Ytndfddejdfnleaa.Pure
