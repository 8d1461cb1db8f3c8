-- Printed for this claim by xprint.py of this session: contracts of this session's own stand in for what the print does not take
import Derived.Test.YtgfmmbgljbabbaaPx0
import Derived.Test.YtgfmmbgljbabbaaPx1
import Derived.Test.YtgfmmbgljbabbaaPx2
import Derived.Test.YtgfmmbgljbabbaaPx3
import Derived.Test.YtgfmmbgljbabbaaPx5
import Derived.Test.YtgfmmbgljbabbaaPx6
import Derived.Test.YtgfmmbgljbabbaaPx9
import Derived.Test.YtgfmmbgljbabbaaPx10
import Derived.Test.YtgfmmbgljbabbaaPx11
import Derived.Test.YtgfmmbgljbabbaaPx12
namespace Go.Proofs.Ytgfmmbgljbabbaa.P
open Go.RowKit Go.Proofs.YtgfmmbgljbabbaaW.PrintWords Go.Proofs.YtgfmmbgljbabbaaW.PrintLast Go.Proofs.YtgfmmbgljbabbaaW.PrintMore
attribute [local go_sem] max2_int min2_int max_two min_two max_three min_three max_four min_four   -- for this text's walks alone
set_option linter.unusedVariables false
set_option linter.unusedSimpArgs false

attribute [local go_sem high] eqA25 eqA27
/-! ### wigwaglaw19_CreditTells: function 4 -/
def wigwaglaw19_CreditTells.j0 : Nat → Int → Int → Bool → Int → Int → Bool → Bool → Bool → Int → Int → Int → Int → Int → Int → Int → Int → Int → Int → Int → Int → Int → Int → Int → Int → Option (Bool)
  | 0, _, _, _, _, _, _, _, _, _, _, _, _, _, _, _, _, _, _, _, _, _, _, _, _ => none
  | k + 1, x2, x3, x9, x15, x17, x19, x21, x22, x270000, x270001, x270002, x270003, x276000, x276001, x276002, x276003, x282000, x282001, x282002, x282003, x288000, x288001, x288002, x288003 => if x9 = true then (if x22 = true then (if (x270000 == x276000 && (x270001 == x276001 && (x270002 == x276002 && (x270003 == x276003)))) = true then (if x15 = x17 then (if (x282000 == x288000 && (x282001 == x288001 && (x282002 == x288002 && (x282003 == x288003)))) = true then (if (x19 == x21) = true then ((credit_Begin.f x2).bind fun bt294 => ((wigwagref19_Begin.f x2).bind fun bt298 => (if (bt294.1 == bt298.1 && (bt294.2.1 == bt298.2.1 && (bt294.2.2.1 == bt298.2.2.1 && (bt294.2.2.2 == bt298.2.2.2)))) = true then ((credit_Stream.f x2 x3).bind fun t302 => ((wigwagref19_Stream.f x2 x3).bind fun t303 => (some (t302 == t303)))) else (some false)))) else (some false)) else (some false)) else (some false)) else (some false)) else (some false)) else (some false)
def wigwaglaw19_CreditTells.f (k : Nat) (a0_0 : Int) (a0_1 : Int) (a1_0 : Int) (a1_1 : Int) (a1_2 : Int) (a1_3 : Int) (a2 : Int) (a3 : Int) : Option (Bool) := (wigwaglaw19_awake.f).bind fun t255 => ((credit_Use.f a0_0 a0_1 a2).bind fun bt256 => ((wigwagref19_Use.f a0_0 a0_1 a2).bind fun bt260 => ((credit_Come.f a1_0 a1_1 a1_2 a1_3 a2).bind fun bt264 => ((wigwagref19_Come.f a1_0 a1_1 a1_2 a1_3 a2).bind fun bt270 => ((credit_Read.f a1_0 a1_1 a1_2 a1_3 a2).bind fun bt276 => ((wigwagref19_Read.f k a1_0 a1_1 a1_2 a1_3 a2).bind fun bt282 => ((credit_Left.f a0_0 a0_1).bind fun t288 => ((wigwagref19_Left.f a0_0 a0_1).bind fun t289 => (if t288 = t289 then (if (bt256.1 == bt260.1 && (bt256.2.1 == bt260.2.1)) = true then (if (bt256.2.2 == bt260.2.2) = true then ((credit_Raise.f a0_0 a0_1 a3).bind fun bt290 => ((wigwagref19_Raise.f a0_0 a0_1 a3).bind fun bt292 => (wigwaglaw19_CreditTells.j0 k a2 a3 t255 bt264.2.2.2.2 bt270.2.2.2.2 bt276.2.2.2.2 bt282.2.2.2.2 (bt290.1 == bt292.1 && (bt290.2 == bt292.2)) bt264.1 bt264.2.1 bt264.2.2.1 bt264.2.2.2.1 bt270.1 bt270.2.1 bt270.2.2.1 bt270.2.2.2.1 bt276.1 bt276.2.1 bt276.2.2.1 bt276.2.2.2.1 bt282.1 bt282.2.1 bt282.2.2.1 bt282.2.2.2.1))) else (wigwaglaw19_CreditTells.j0 k a2 a3 t255 bt264.2.2.2.2 bt270.2.2.2.2 bt276.2.2.2.2 bt282.2.2.2.2 false bt264.1 bt264.2.1 bt264.2.2.1 bt264.2.2.2.1 bt270.1 bt270.2.1 bt270.2.2.1 bt270.2.2.2.1 bt276.1 bt276.2.1 bt276.2.2.1 bt276.2.2.2.1 bt282.1 bt282.2.1 bt282.2.2.1 bt282.2.2.2.1)) else (wigwaglaw19_CreditTells.j0 k a2 a3 t255 bt264.2.2.2.2 bt270.2.2.2.2 bt276.2.2.2.2 bt282.2.2.2.2 false bt264.1 bt264.2.1 bt264.2.2.1 bt264.2.2.2.1 bt270.1 bt270.2.1 bt270.2.2.1 bt270.2.2.2.1 bt276.1 bt276.2.1 bt276.2.2.1 bt276.2.2.2.1 bt282.1 bt282.2.1 bt282.2.2.1 bt282.2.2.2.1)) else (wigwaglaw19_CreditTells.j0 k a2 a3 t255 bt264.2.2.2.2 bt270.2.2.2.2 bt276.2.2.2.2 bt282.2.2.2.2 false bt264.1 bt264.2.1 bt264.2.2.1 bt264.2.2.2.1 bt270.1 bt270.2.1 bt270.2.2.1 bt270.2.2.2.1 bt276.1 bt276.2.1 bt276.2.2.1 bt276.2.2.2.1 bt282.1 bt282.2.1 bt282.2.2.1 bt282.2.2.2.1))))))))))
theorem wigwaglaw19_CreditTells.mono_l : ∀ k, (∀ y0 y1 y2 y3 y4 y5 y6 y7 y8 y9 y10 y11 y12 y13 y14 y15 y16 y17 y18 y19 y20 y21 y22 y23, LeO (wigwaglaw19_CreditTells.j0 k y0 y1 y2 y3 y4 y5 y6 y7 y8 y9 y10 y11 y12 y13 y14 y15 y16 y17 y18 y19 y20 y21 y22 y23) (wigwaglaw19_CreditTells.j0 (k + 1) y0 y1 y2 y3 y4 y5 y6 y7 y8 y9 y10 y11 y12 y13 y14 y15 y16 y17 y18 y19 y20 y21 y22 y23))
  | 0 => fun _ _ _ _ _ _ _ _ _ _ _ _ _ _ _ _ _ _ _ _ _ _ _ _ r h => by simp [wigwaglaw19_CreditTells.j0] at h
  | k + 1 => by
    have ih0 := wigwaglaw19_CreditTells.mono_l k
    · intro y0 y1 y2 y3 y4 y5 y6 y7 y8 y9 y10 y11 y12 y13 y14 y15 y16 y17 y18 y19 y20 y21 y22 y23
      unfold wigwaglaw19_CreditTells.j0
      repeat' first
      | (with_reducible exact ih0 _ _ _ _ _ _ _ _ _ _ _ _ _ _ _ _ _ _ _ _ _ _ _ _)
      | (with_reducible exact wigwagref19_Read.mono _ _ _ _ _ _)
      | (with_reducible exact LeO.refl _)
      | (with_reducible exact LeO.none _)
      | (with_reducible refine LeO.ite ?_ ?_)
      | (with_reducible refine LeO.bind ?_ (fun _ => ?_))
      | exact ih0 _ _ _ _ _ _ _ _ _ _ _ _ _ _ _ _ _ _ _ _ _ _ _ _
      | exact wigwagref19_Read.mono _ _ _ _ _ _
      | exact LeO.none _
      | refine LeO.ite ?_ ?_
      | refine LeO.bind ?_ (fun _ => ?_)
theorem wigwaglaw19_CreditTells.mono : ∀ a0 a1 a2 a3 a4 a5 a6 a7 k, LeO (wigwaglaw19_CreditTells.f k a0 a1 a2 a3 a4 a5 a6 a7) (wigwaglaw19_CreditTells.f (k + 1) a0 a1 a2 a3 a4 a5 a6 a7) := by
  intro a0 a1 a2 a3 a4 a5 a6 a7 k
  have ih0 := wigwaglaw19_CreditTells.mono_l k
  unfold wigwaglaw19_CreditTells.f
  repeat' first
      | (with_reducible exact ih0 _ _ _ _ _ _ _ _ _ _ _ _ _ _ _ _ _ _ _ _ _ _ _ _)
      | (with_reducible exact wigwagref19_Read.mono _ _ _ _ _ _)
      | (with_reducible exact LeO.refl _)
      | (with_reducible exact LeO.none _)
      | (with_reducible refine LeO.ite ?_ ?_)
      | (with_reducible refine LeO.bind ?_ (fun _ => ?_))
      | exact ih0 _ _ _ _ _ _ _ _ _ _ _ _ _ _ _ _ _ _ _ _ _ _ _ _
      | exact wigwagref19_Read.mono _ _ _ _ _ _
      | exact LeO.none _
      | refine LeO.ite ?_ ?_
      | refine LeO.bind ?_ (fun _ => ?_)
def wigwaglaw19_CreditTells.T8 : Bool × List (List Nat × List Nat) := (true, [([], []), ([0], [0]), ([], []), ([2, 1], [2]), ([1, 3], [1, 3]), ([4, 3], [4]), ([5], [5]), ([5], [5]), ([6, 7, 5], [5, 6, 7]), ([5, 8], [5, 8]), ([9, 5], [9]), ([10], [10]), ([10], [10]), ([11, 12, 10], [10, 11, 12]), ([10, 13], [10, 13]), ([14, 10], [14]), ([15], [15]), ([15], [15]), ([16, 17, 15, 15], [15, 16, 17]), ([15], [15]), ([15], [15]), ([19, 20, 18, 15], [15, 19, 20]), ([18, 21, 15], [15, 18, 21]), ([15, 22], [15, 22]), ([23, 21, 0, 1, 2, 3, 4, 5, 6, 7, 8, 9, 10, 11, 12, 13, 14, 15, 16, 17, 18, 19, 20, 21, 22, 23], [23])])
def wigwaglaw19_CreditTells.B8 : List Nat := [0, 1, 0, 7, 15, 31, 63, 63, 255, 511, 1023, 2047, 2047, 8191, 16383, 32767, 65535, 65535, 262143, 65535, 65535, 2097151, 4194303, 8388607, 16777215]
theorem wigwaglaw19_CreditTells.tab8 : rtab .any (opsOf Try.f4 8) = wigwaglaw19_CreditTells.T8 := by kernel_rfl
theorem wigwaglaw19_CreditTells.bits8 : waitsOk wigwaglaw19_CreditTells.T8.2 wigwaglaw19_CreditTells.B8 = true := by kernel_rfl
set_option maxHeartbeats 8000000 in
set_option maxRecDepth 100000 in
theorem wigwaglaw19_CreditTells.calls (k : Nat) (a0_0 : Int) (a0_1 : Int) (a1_0 : Int) (a1_1 : Int) (a1_2 : Int) (a1_3 : Int) (a2 : Int) (a3 : Int) (r : Bool) (w : World) (h : wigwaglaw19_CreditTells.f k a0_0 a0_1 a1_0 a1_1 a1_2 a1_3 a2 a3 = some r) :
    Calls Try.prog 4 #[.agg #[.int .u64 a0_0, .int .u64 a0_1], .agg #[.int .u64 a1_0, .int .u64 a1_1, .int .u64 a1_2, .int .u64 a1_3], .int .u64 a2, .int .u64 a3] w fun e w' => e = .returned (.bool r) ∧ Below w.heap.size w w' := by
  have hu25 := Try.underlying25
  have hu27 := Try.underlying27
  have HB := Aside0.mk (Below.refl w.heap.size w)
  have H : ((wigwaglaw19_awake.f).bind fun t255 => ((credit_Use.f a0_0 a0_1 a2).bind fun bt256 => ((wigwagref19_Use.f a0_0 a0_1 a2).bind fun bt260 => ((credit_Come.f a1_0 a1_1 a1_2 a1_3 a2).bind fun bt264 => ((wigwagref19_Come.f a1_0 a1_1 a1_2 a1_3 a2).bind fun bt270 => ((credit_Read.f a1_0 a1_1 a1_2 a1_3 a2).bind fun bt276 => ((wigwagref19_Read.f k a1_0 a1_1 a1_2 a1_3 a2).bind fun bt282 => ((credit_Left.f a0_0 a0_1).bind fun t288 => ((wigwagref19_Left.f a0_0 a0_1).bind fun t289 => (if t288 = t289 then (if (bt256.1 == bt260.1 && (bt256.2.1 == bt260.2.1)) = true then (if (bt256.2.2 == bt260.2.2) = true then ((credit_Raise.f a0_0 a0_1 a3).bind fun bt290 => ((wigwagref19_Raise.f a0_0 a0_1 a3).bind fun bt292 => (wigwaglaw19_CreditTells.j0 k a2 a3 t255 bt264.2.2.2.2 bt270.2.2.2.2 bt276.2.2.2.2 bt282.2.2.2.2 (bt290.1 == bt292.1 && (bt290.2 == bt292.2)) bt264.1 bt264.2.1 bt264.2.2.1 bt264.2.2.2.1 bt270.1 bt270.2.1 bt270.2.2.1 bt270.2.2.2.1 bt276.1 bt276.2.1 bt276.2.2.1 bt276.2.2.2.1 bt282.1 bt282.2.1 bt282.2.2.1 bt282.2.2.2.1))) else (wigwaglaw19_CreditTells.j0 k a2 a3 t255 bt264.2.2.2.2 bt270.2.2.2.2 bt276.2.2.2.2 bt282.2.2.2.2 false bt264.1 bt264.2.1 bt264.2.2.1 bt264.2.2.2.1 bt270.1 bt270.2.1 bt270.2.2.1 bt270.2.2.2.1 bt276.1 bt276.2.1 bt276.2.2.1 bt276.2.2.2.1 bt282.1 bt282.2.1 bt282.2.2.1 bt282.2.2.2.1)) else (wigwaglaw19_CreditTells.j0 k a2 a3 t255 bt264.2.2.2.2 bt270.2.2.2.2 bt276.2.2.2.2 bt282.2.2.2.2 false bt264.1 bt264.2.1 bt264.2.2.1 bt264.2.2.2.1 bt270.1 bt270.2.1 bt270.2.2.1 bt270.2.2.2.1 bt276.1 bt276.2.1 bt276.2.2.1 bt276.2.2.2.1 bt282.1 bt282.2.1 bt282.2.2.1 bt282.2.2.2.1)) else (wigwaglaw19_CreditTells.j0 k a2 a3 t255 bt264.2.2.2.2 bt270.2.2.2.2 bt276.2.2.2.2 bt282.2.2.2.2 false bt264.1 bt264.2.1 bt264.2.2.1 bt264.2.2.2.1 bt270.1 bt270.2.1 bt270.2.2.1 bt270.2.2.2.1 bt276.1 bt276.2.1 bt276.2.2.1 bt276.2.2.2.1 bt282.1 bt282.2.1 bt282.2.2.1 bt282.2.2.2.1))))))))))) = some r := h
  clear h
  replace H := Option.bind_eq_some_iff.mp H
  obtain ⟨t255, A50, H⟩ := H
  replace H : ((credit_Use.f a0_0 a0_1 a2).bind fun bt256 => ((wigwagref19_Use.f a0_0 a0_1 a2).bind fun bt260 => ((credit_Come.f a1_0 a1_1 a1_2 a1_3 a2).bind fun bt264 => ((wigwagref19_Come.f a1_0 a1_1 a1_2 a1_3 a2).bind fun bt270 => ((credit_Read.f a1_0 a1_1 a1_2 a1_3 a2).bind fun bt276 => ((wigwagref19_Read.f k a1_0 a1_1 a1_2 a1_3 a2).bind fun bt282 => ((credit_Left.f a0_0 a0_1).bind fun t288 => ((wigwagref19_Left.f a0_0 a0_1).bind fun t289 => (if t288 = t289 then (if (bt256.1 == bt260.1 && (bt256.2.1 == bt260.2.1)) = true then (if (bt256.2.2 == bt260.2.2) = true then ((credit_Raise.f a0_0 a0_1 a3).bind fun bt290 => ((wigwagref19_Raise.f a0_0 a0_1 a3).bind fun bt292 => (wigwaglaw19_CreditTells.j0 k a2 a3 t255 bt264.2.2.2.2 bt270.2.2.2.2 bt276.2.2.2.2 bt282.2.2.2.2 (bt290.1 == bt292.1 && (bt290.2 == bt292.2)) bt264.1 bt264.2.1 bt264.2.2.1 bt264.2.2.2.1 bt270.1 bt270.2.1 bt270.2.2.1 bt270.2.2.2.1 bt276.1 bt276.2.1 bt276.2.2.1 bt276.2.2.2.1 bt282.1 bt282.2.1 bt282.2.2.1 bt282.2.2.2.1))) else (wigwaglaw19_CreditTells.j0 k a2 a3 t255 bt264.2.2.2.2 bt270.2.2.2.2 bt276.2.2.2.2 bt282.2.2.2.2 false bt264.1 bt264.2.1 bt264.2.2.1 bt264.2.2.2.1 bt270.1 bt270.2.1 bt270.2.2.1 bt270.2.2.2.1 bt276.1 bt276.2.1 bt276.2.2.1 bt276.2.2.2.1 bt282.1 bt282.2.1 bt282.2.2.1 bt282.2.2.2.1)) else (wigwaglaw19_CreditTells.j0 k a2 a3 t255 bt264.2.2.2.2 bt270.2.2.2.2 bt276.2.2.2.2 bt282.2.2.2.2 false bt264.1 bt264.2.1 bt264.2.2.1 bt264.2.2.2.1 bt270.1 bt270.2.1 bt270.2.2.1 bt270.2.2.2.1 bt276.1 bt276.2.1 bt276.2.2.1 bt276.2.2.2.1 bt282.1 bt282.2.1 bt282.2.2.1 bt282.2.2.2.1)) else (wigwaglaw19_CreditTells.j0 k a2 a3 t255 bt264.2.2.2.2 bt270.2.2.2.2 bt276.2.2.2.2 bt282.2.2.2.2 false bt264.1 bt264.2.1 bt264.2.2.1 bt264.2.2.2.1 bt270.1 bt270.2.1 bt270.2.2.1 bt270.2.2.2.1 bt276.1 bt276.2.1 bt276.2.2.1 bt276.2.2.2.1 bt282.1 bt282.2.1 bt282.2.2.1 bt282.2.2.2.1)))))))))) = some r := H
  have A5 := Aside0.mk A50
  clear A50
  replace H := Option.bind_eq_some_iff.mp H
  obtain ⟨⟨t256, t257, t258⟩, A60, H⟩ := H
  replace H : ((wigwagref19_Use.f a0_0 a0_1 a2).bind fun bt260 => ((credit_Come.f a1_0 a1_1 a1_2 a1_3 a2).bind fun bt264 => ((wigwagref19_Come.f a1_0 a1_1 a1_2 a1_3 a2).bind fun bt270 => ((credit_Read.f a1_0 a1_1 a1_2 a1_3 a2).bind fun bt276 => ((wigwagref19_Read.f k a1_0 a1_1 a1_2 a1_3 a2).bind fun bt282 => ((credit_Left.f a0_0 a0_1).bind fun t288 => ((wigwagref19_Left.f a0_0 a0_1).bind fun t289 => (if t288 = t289 then (if (t256 == bt260.1 && (t257 == bt260.2.1)) = true then (if (t258 == bt260.2.2) = true then ((credit_Raise.f a0_0 a0_1 a3).bind fun bt290 => ((wigwagref19_Raise.f a0_0 a0_1 a3).bind fun bt292 => (wigwaglaw19_CreditTells.j0 k a2 a3 t255 bt264.2.2.2.2 bt270.2.2.2.2 bt276.2.2.2.2 bt282.2.2.2.2 (bt290.1 == bt292.1 && (bt290.2 == bt292.2)) bt264.1 bt264.2.1 bt264.2.2.1 bt264.2.2.2.1 bt270.1 bt270.2.1 bt270.2.2.1 bt270.2.2.2.1 bt276.1 bt276.2.1 bt276.2.2.1 bt276.2.2.2.1 bt282.1 bt282.2.1 bt282.2.2.1 bt282.2.2.2.1))) else (wigwaglaw19_CreditTells.j0 k a2 a3 t255 bt264.2.2.2.2 bt270.2.2.2.2 bt276.2.2.2.2 bt282.2.2.2.2 false bt264.1 bt264.2.1 bt264.2.2.1 bt264.2.2.2.1 bt270.1 bt270.2.1 bt270.2.2.1 bt270.2.2.2.1 bt276.1 bt276.2.1 bt276.2.2.1 bt276.2.2.2.1 bt282.1 bt282.2.1 bt282.2.2.1 bt282.2.2.2.1)) else (wigwaglaw19_CreditTells.j0 k a2 a3 t255 bt264.2.2.2.2 bt270.2.2.2.2 bt276.2.2.2.2 bt282.2.2.2.2 false bt264.1 bt264.2.1 bt264.2.2.1 bt264.2.2.2.1 bt270.1 bt270.2.1 bt270.2.2.1 bt270.2.2.2.1 bt276.1 bt276.2.1 bt276.2.2.1 bt276.2.2.2.1 bt282.1 bt282.2.1 bt282.2.2.1 bt282.2.2.2.1)) else (wigwaglaw19_CreditTells.j0 k a2 a3 t255 bt264.2.2.2.2 bt270.2.2.2.2 bt276.2.2.2.2 bt282.2.2.2.2 false bt264.1 bt264.2.1 bt264.2.2.1 bt264.2.2.2.1 bt270.1 bt270.2.1 bt270.2.2.1 bt270.2.2.2.1 bt276.1 bt276.2.1 bt276.2.2.1 bt276.2.2.2.1 bt282.1 bt282.2.1 bt282.2.2.1 bt282.2.2.2.1))))))))) = some r := H
  have A6 := Aside0.mk A60
  clear A60
  replace H := Option.bind_eq_some_iff.mp H
  obtain ⟨⟨t260, t261, t262⟩, A70, H⟩ := H
  replace H : ((credit_Come.f a1_0 a1_1 a1_2 a1_3 a2).bind fun bt264 => ((wigwagref19_Come.f a1_0 a1_1 a1_2 a1_3 a2).bind fun bt270 => ((credit_Read.f a1_0 a1_1 a1_2 a1_3 a2).bind fun bt276 => ((wigwagref19_Read.f k a1_0 a1_1 a1_2 a1_3 a2).bind fun bt282 => ((credit_Left.f a0_0 a0_1).bind fun t288 => ((wigwagref19_Left.f a0_0 a0_1).bind fun t289 => (if t288 = t289 then (if (t256 == t260 && (t257 == t261)) = true then (if (t258 == t262) = true then ((credit_Raise.f a0_0 a0_1 a3).bind fun bt290 => ((wigwagref19_Raise.f a0_0 a0_1 a3).bind fun bt292 => (wigwaglaw19_CreditTells.j0 k a2 a3 t255 bt264.2.2.2.2 bt270.2.2.2.2 bt276.2.2.2.2 bt282.2.2.2.2 (bt290.1 == bt292.1 && (bt290.2 == bt292.2)) bt264.1 bt264.2.1 bt264.2.2.1 bt264.2.2.2.1 bt270.1 bt270.2.1 bt270.2.2.1 bt270.2.2.2.1 bt276.1 bt276.2.1 bt276.2.2.1 bt276.2.2.2.1 bt282.1 bt282.2.1 bt282.2.2.1 bt282.2.2.2.1))) else (wigwaglaw19_CreditTells.j0 k a2 a3 t255 bt264.2.2.2.2 bt270.2.2.2.2 bt276.2.2.2.2 bt282.2.2.2.2 false bt264.1 bt264.2.1 bt264.2.2.1 bt264.2.2.2.1 bt270.1 bt270.2.1 bt270.2.2.1 bt270.2.2.2.1 bt276.1 bt276.2.1 bt276.2.2.1 bt276.2.2.2.1 bt282.1 bt282.2.1 bt282.2.2.1 bt282.2.2.2.1)) else (wigwaglaw19_CreditTells.j0 k a2 a3 t255 bt264.2.2.2.2 bt270.2.2.2.2 bt276.2.2.2.2 bt282.2.2.2.2 false bt264.1 bt264.2.1 bt264.2.2.1 bt264.2.2.2.1 bt270.1 bt270.2.1 bt270.2.2.1 bt270.2.2.2.1 bt276.1 bt276.2.1 bt276.2.2.1 bt276.2.2.2.1 bt282.1 bt282.2.1 bt282.2.2.1 bt282.2.2.2.1)) else (wigwaglaw19_CreditTells.j0 k a2 a3 t255 bt264.2.2.2.2 bt270.2.2.2.2 bt276.2.2.2.2 bt282.2.2.2.2 false bt264.1 bt264.2.1 bt264.2.2.1 bt264.2.2.2.1 bt270.1 bt270.2.1 bt270.2.2.1 bt270.2.2.2.1 bt276.1 bt276.2.1 bt276.2.2.1 bt276.2.2.2.1 bt282.1 bt282.2.1 bt282.2.2.1 bt282.2.2.2.1)))))))) = some r := H
  have A7 := Aside0.mk A70
  clear A70
  replace H := Option.bind_eq_some_iff.mp H
  obtain ⟨⟨t264, t265, t266, t267, t268⟩, A80, H⟩ := H
  replace H : ((wigwagref19_Come.f a1_0 a1_1 a1_2 a1_3 a2).bind fun bt270 => ((credit_Read.f a1_0 a1_1 a1_2 a1_3 a2).bind fun bt276 => ((wigwagref19_Read.f k a1_0 a1_1 a1_2 a1_3 a2).bind fun bt282 => ((credit_Left.f a0_0 a0_1).bind fun t288 => ((wigwagref19_Left.f a0_0 a0_1).bind fun t289 => (if t288 = t289 then (if (t256 == t260 && (t257 == t261)) = true then (if (t258 == t262) = true then ((credit_Raise.f a0_0 a0_1 a3).bind fun bt290 => ((wigwagref19_Raise.f a0_0 a0_1 a3).bind fun bt292 => (wigwaglaw19_CreditTells.j0 k a2 a3 t255 t268 bt270.2.2.2.2 bt276.2.2.2.2 bt282.2.2.2.2 (bt290.1 == bt292.1 && (bt290.2 == bt292.2)) t264 t265 t266 t267 bt270.1 bt270.2.1 bt270.2.2.1 bt270.2.2.2.1 bt276.1 bt276.2.1 bt276.2.2.1 bt276.2.2.2.1 bt282.1 bt282.2.1 bt282.2.2.1 bt282.2.2.2.1))) else (wigwaglaw19_CreditTells.j0 k a2 a3 t255 t268 bt270.2.2.2.2 bt276.2.2.2.2 bt282.2.2.2.2 false t264 t265 t266 t267 bt270.1 bt270.2.1 bt270.2.2.1 bt270.2.2.2.1 bt276.1 bt276.2.1 bt276.2.2.1 bt276.2.2.2.1 bt282.1 bt282.2.1 bt282.2.2.1 bt282.2.2.2.1)) else (wigwaglaw19_CreditTells.j0 k a2 a3 t255 t268 bt270.2.2.2.2 bt276.2.2.2.2 bt282.2.2.2.2 false t264 t265 t266 t267 bt270.1 bt270.2.1 bt270.2.2.1 bt270.2.2.2.1 bt276.1 bt276.2.1 bt276.2.2.1 bt276.2.2.2.1 bt282.1 bt282.2.1 bt282.2.2.1 bt282.2.2.2.1)) else (wigwaglaw19_CreditTells.j0 k a2 a3 t255 t268 bt270.2.2.2.2 bt276.2.2.2.2 bt282.2.2.2.2 false t264 t265 t266 t267 bt270.1 bt270.2.1 bt270.2.2.1 bt270.2.2.2.1 bt276.1 bt276.2.1 bt276.2.2.1 bt276.2.2.2.1 bt282.1 bt282.2.1 bt282.2.2.1 bt282.2.2.2.1))))))) = some r := H
  have A8 := Aside0.mk A80
  clear A80
  replace H := Option.bind_eq_some_iff.mp H
  obtain ⟨⟨t270, t271, t272, t273, t274⟩, A90, H⟩ := H
  replace H : ((credit_Read.f a1_0 a1_1 a1_2 a1_3 a2).bind fun bt276 => ((wigwagref19_Read.f k a1_0 a1_1 a1_2 a1_3 a2).bind fun bt282 => ((credit_Left.f a0_0 a0_1).bind fun t288 => ((wigwagref19_Left.f a0_0 a0_1).bind fun t289 => (if t288 = t289 then (if (t256 == t260 && (t257 == t261)) = true then (if (t258 == t262) = true then ((credit_Raise.f a0_0 a0_1 a3).bind fun bt290 => ((wigwagref19_Raise.f a0_0 a0_1 a3).bind fun bt292 => (wigwaglaw19_CreditTells.j0 k a2 a3 t255 t268 t274 bt276.2.2.2.2 bt282.2.2.2.2 (bt290.1 == bt292.1 && (bt290.2 == bt292.2)) t264 t265 t266 t267 t270 t271 t272 t273 bt276.1 bt276.2.1 bt276.2.2.1 bt276.2.2.2.1 bt282.1 bt282.2.1 bt282.2.2.1 bt282.2.2.2.1))) else (wigwaglaw19_CreditTells.j0 k a2 a3 t255 t268 t274 bt276.2.2.2.2 bt282.2.2.2.2 false t264 t265 t266 t267 t270 t271 t272 t273 bt276.1 bt276.2.1 bt276.2.2.1 bt276.2.2.2.1 bt282.1 bt282.2.1 bt282.2.2.1 bt282.2.2.2.1)) else (wigwaglaw19_CreditTells.j0 k a2 a3 t255 t268 t274 bt276.2.2.2.2 bt282.2.2.2.2 false t264 t265 t266 t267 t270 t271 t272 t273 bt276.1 bt276.2.1 bt276.2.2.1 bt276.2.2.2.1 bt282.1 bt282.2.1 bt282.2.2.1 bt282.2.2.2.1)) else (wigwaglaw19_CreditTells.j0 k a2 a3 t255 t268 t274 bt276.2.2.2.2 bt282.2.2.2.2 false t264 t265 t266 t267 t270 t271 t272 t273 bt276.1 bt276.2.1 bt276.2.2.1 bt276.2.2.2.1 bt282.1 bt282.2.1 bt282.2.2.1 bt282.2.2.2.1)))))) = some r := H
  have A9 := Aside0.mk A90
  clear A90
  replace H := Option.bind_eq_some_iff.mp H
  obtain ⟨⟨t276, t277, t278, t279, t280⟩, A100, H⟩ := H
  replace H : ((wigwagref19_Read.f k a1_0 a1_1 a1_2 a1_3 a2).bind fun bt282 => ((credit_Left.f a0_0 a0_1).bind fun t288 => ((wigwagref19_Left.f a0_0 a0_1).bind fun t289 => (if t288 = t289 then (if (t256 == t260 && (t257 == t261)) = true then (if (t258 == t262) = true then ((credit_Raise.f a0_0 a0_1 a3).bind fun bt290 => ((wigwagref19_Raise.f a0_0 a0_1 a3).bind fun bt292 => (wigwaglaw19_CreditTells.j0 k a2 a3 t255 t268 t274 t280 bt282.2.2.2.2 (bt290.1 == bt292.1 && (bt290.2 == bt292.2)) t264 t265 t266 t267 t270 t271 t272 t273 t276 t277 t278 t279 bt282.1 bt282.2.1 bt282.2.2.1 bt282.2.2.2.1))) else (wigwaglaw19_CreditTells.j0 k a2 a3 t255 t268 t274 t280 bt282.2.2.2.2 false t264 t265 t266 t267 t270 t271 t272 t273 t276 t277 t278 t279 bt282.1 bt282.2.1 bt282.2.2.1 bt282.2.2.2.1)) else (wigwaglaw19_CreditTells.j0 k a2 a3 t255 t268 t274 t280 bt282.2.2.2.2 false t264 t265 t266 t267 t270 t271 t272 t273 t276 t277 t278 t279 bt282.1 bt282.2.1 bt282.2.2.1 bt282.2.2.2.1)) else (wigwaglaw19_CreditTells.j0 k a2 a3 t255 t268 t274 t280 bt282.2.2.2.2 false t264 t265 t266 t267 t270 t271 t272 t273 t276 t277 t278 t279 bt282.1 bt282.2.1 bt282.2.2.1 bt282.2.2.2.1))))) = some r := H
  have A10 := Aside0.mk A100
  clear A100
  replace H := Option.bind_eq_some_iff.mp H
  obtain ⟨⟨t282, t283, t284, t285, t286⟩, A110, H⟩ := H
  replace H : ((credit_Left.f a0_0 a0_1).bind fun t288 => ((wigwagref19_Left.f a0_0 a0_1).bind fun t289 => (if t288 = t289 then (if (t256 == t260 && (t257 == t261)) = true then (if (t258 == t262) = true then ((credit_Raise.f a0_0 a0_1 a3).bind fun bt290 => ((wigwagref19_Raise.f a0_0 a0_1 a3).bind fun bt292 => (wigwaglaw19_CreditTells.j0 k a2 a3 t255 t268 t274 t280 t286 (bt290.1 == bt292.1 && (bt290.2 == bt292.2)) t264 t265 t266 t267 t270 t271 t272 t273 t276 t277 t278 t279 t282 t283 t284 t285))) else (wigwaglaw19_CreditTells.j0 k a2 a3 t255 t268 t274 t280 t286 false t264 t265 t266 t267 t270 t271 t272 t273 t276 t277 t278 t279 t282 t283 t284 t285)) else (wigwaglaw19_CreditTells.j0 k a2 a3 t255 t268 t274 t280 t286 false t264 t265 t266 t267 t270 t271 t272 t273 t276 t277 t278 t279 t282 t283 t284 t285)) else (wigwaglaw19_CreditTells.j0 k a2 a3 t255 t268 t274 t280 t286 false t264 t265 t266 t267 t270 t271 t272 t273 t276 t277 t278 t279 t282 t283 t284 t285)))) = some r := H
  have A11 := Aside0.mk A110
  clear A110
  have HC12 := Aside0.mk H
  clear H
  go_enter Try.func4, Try.ntmps4
  go_upto_region 8 with (first | ((with_reducible refine gate_dst (N := 4) rfl ?_); refine box_event ?hg (N := 4) ?hd (cs := #[.int .u64 a0_0, .int .u64 a0_1]) (t := 25) ?hr ?_; (case hd => rfl); (case hg => rfl); (case hr => first | (go_simp; done) | (go_simp; rfl)); intro gb253 hg w13 hbox hb; have n0_ := Aside0.mk (below_step (by repeat (first | (with_reducible first | exact HB.out | apply below_alloc | apply pw_below_drewN | apply below_drew1) | exact HB.out)) hb); have n1_ := Aside0.mk (hbox); have n2_ := Aside0.mk ((by rw [hg]; exact (below_size (by repeat (first | (with_reducible first | exact HB.out | apply below_alloc | apply pw_below_drewN | apply below_drew1) | exact HB.out))) : w.heap.size ≤ gb253)); have n3_ := Aside0.mk ((by rw [hg]; exact (below_size (by repeat (first | (with_reducible first | exact HB.out | apply below_alloc | apply pw_below_drewN | apply below_drew1) | exact HB.out))) : w.heap.size ≤ gb253)); clear HB; have HB := n0_; have BK253 := n1_; have GW253 := n2_; have GE253 := n3_; clear n0_ n1_ n2_ n3_; clear hb hbox hg) | ((with_reducible refine gate_dst (N := 5) rfl ?_); refine box_event ?hg (N := 5) ?hd (cs := #[.int .u64 a1_0, .int .u64 a1_1, .int .u64 a1_2, .int .u64 a1_3]) (t := 27) ?hr ?_; (case hd => rfl); (case hg => rfl); (case hr => first | (go_simp; done) | (go_simp; rfl)); intro gb254 hg w14 hbox hb; have n0_ := Aside0.mk (blk_below (g := gb253) (o := .cells #[.int .u64 a0_0, .int .u64 a0_1] 25 (0, 0)) (by (with_reducible repeat (first | refine blk_drewN ?_ _ | refine blk_drew ?_ | refine blk_alloc ?_ _)); exact BK253.out) hb); have n1_ := Aside0.mk (below_step (by repeat (first | (with_reducible first | exact HB.out | apply below_alloc | apply pw_below_drewN | apply below_drew1 | refine below_set ?_ GE253.out) | exact HB.out)) hb); have n2_ := Aside0.mk (hbox); have n3_ := Aside0.mk ((by rw [hg]; exact (below_size (by repeat (first | (with_reducible first | exact HB.out | apply below_alloc | apply pw_below_drewN | apply below_drew1 | refine below_set ?_ GE253.out) | exact HB.out))) : w.heap.size ≤ gb254)); have n4_ := Aside0.mk ((by rw [hg]; exact (below_size (by repeat (first | (with_reducible first | exact HB.out | apply below_alloc | apply pw_below_drewN | apply below_drew1 | refine below_set ?_ GE253.out) | exact HB.out))) : w.heap.size ≤ gb254)); have n5_ := Aside0.mk ((by rw [hg]; exact Nat.ne_of_lt (blk_lt (g := gb253) (o := .cells #[.int .u64 a0_0, .int .u64 a0_1] 25 (0, 0)) (by (with_reducible repeat (first | refine blk_drewN ?_ _ | refine blk_drew ?_ | refine blk_alloc ?_ _)); exact BK253.out)) : gb253 ≠ gb254)); have n6_ := Aside0.mk ((by rw [hg]; exact Nat.ne_of_gt (blk_lt (g := gb253) (o := .cells #[.int .u64 a0_0, .int .u64 a0_1] 25 (0, 0)) (by (with_reducible repeat (first | refine blk_drewN ?_ _ | refine blk_drew ?_ | refine blk_alloc ?_ _)); exact BK253.out)) : gb254 ≠ gb253)); clear BK253; clear HB; have BK253 := n0_; have HB := n1_; have BK254 := n2_; have GW254 := n3_; have GE254 := n4_; have NB253_254 := n5_; have NB254_253 := n6_; clear n0_ n1_ n2_ n3_ n4_ n5_ n6_; clear hb hbox hg) | ((with_reducible refine gate_callee (f := 9) rfl ?_); refine goesL_ (some 23) rfl rfl Try.func9 (by kernel_rfl) rfl #[] rfl (by (try simp only [List.map_toArray, List.map_cons, List.map_nil]); first | done | rfl | (simp only [List.length_drop, List.length_take]; rfl)) ?_; (with_reducible refine (wigwaglaw19_awake.calls  t255 _ A5.out).mono ?_); rintro e w15 ⟨rfl, hb⟩; refine ⟨_, rfl, ?_⟩; have n0_ := Aside0.mk (blk_below (g := gb253) (o := .cells #[.int .u64 a0_0, .int .u64 a0_1] 25 (0, 0)) (by (with_reducible repeat (first | refine blk_drewN ?_ _ | refine blk_drew ?_ | refine blk_alloc ?_ _)); exact BK253.out) hb); have n1_ := Aside0.mk (blk_below (g := gb254) (o := .cells #[.int .u64 a1_0, .int .u64 a1_1, .int .u64 a1_2, .int .u64 a1_3] 27 (0, 0)) (by (with_reducible repeat (first | refine blk_drewN ?_ _ | refine blk_drew ?_ | refine blk_alloc ?_ _)); exact BK254.out) hb); have n2_ := Aside0.mk (below_step (by repeat (first | (with_reducible first | exact HB.out | apply below_alloc | apply pw_below_drewN | apply below_drew1 | refine below_set ?_ GE253.out | refine below_set ?_ GE254.out) | exact HB.out)) hb); clear BK253; clear BK254; clear HB; have BK253 := n0_; have BK254 := n1_; have HB := n2_; clear n0_ n1_ n2_; (try clear hb); (try clear hb2); (try clear hk); (try clear hi); have hnb16 := NB253_254.out; have hnc16 := NB254_253.out; have hcz17_0 : w15.cell? ⟨gb253, 0, none⟩ = some (.int .u64 a0_0) := (blk_cell BK253.out 0).trans rfl; have hcz17_1 : w15.cell? ⟨gb253, 1, none⟩ = some (.int .u64 a0_1) := (blk_cell BK253.out 1).trans rfl; have hfz17_0 := blk_frozen BK253.out 0; have hfz17_1 := blk_frozen BK253.out 1) | ((with_reducible refine gate_callee (f := 10) rfl ?_); refine goesL_ (some 27) rfl rfl Try.func10 (by kernel_rfl) rfl #[.agg #[.int .u64 a0_0, .int .u64 a0_1], .int .u64 a2] rfl (by (try simp only [List.map_toArray, List.map_cons, List.map_nil]); first | done | rfl | (simp only [List.length_drop, List.length_take]; rfl)) ?_; (with_reducible refine (credit_Use.calls a0_0 a0_1 a2 t256 t257 t258 _ A6.out).mono ?_); rintro e w18 ⟨rfl, hb⟩; refine ⟨_, rfl, ?_⟩; have n0_ := Aside0.mk (blk_below (g := gb253) (o := .cells #[.int .u64 a0_0, .int .u64 a0_1] 25 (0, 0)) (by (with_reducible repeat (first | refine blk_drewN ?_ _ | refine blk_drew ?_ | refine blk_alloc ?_ _)); exact BK253.out) hb); have n1_ := Aside0.mk (blk_below (g := gb254) (o := .cells #[.int .u64 a1_0, .int .u64 a1_1, .int .u64 a1_2, .int .u64 a1_3] 27 (0, 0)) (by (with_reducible repeat (first | refine blk_drewN ?_ _ | refine blk_drew ?_ | refine blk_alloc ?_ _)); exact BK254.out) hb); have n2_ := Aside0.mk (below_step (by repeat (first | (with_reducible first | exact HB.out | apply below_alloc | apply pw_below_drewN | apply below_drew1 | refine below_set ?_ GE253.out | refine below_set ?_ GE254.out) | exact HB.out)) hb); clear BK253; clear BK254; clear HB; have BK253 := n0_; have BK254 := n1_; have HB := n2_; clear n0_ n1_ n2_; (try clear hb); (try clear hb2); (try clear hk); (try clear hi)) | ((with_reducible refine gate_dst (N := 10) rfl ?_); refine box_event ?hg (N := 10) ?hd (cs := #[.int .u64 0, .int .u64 0]) (t := 25) ?hr ?_; (case hd => rfl); (case hg => rfl); (case hr => first | (go_simp; done) | (go_simp; rfl)); intro gb259 hg w19 hbox hb; have n0_ := Aside0.mk (blk_below (g := gb253) (o := .cells #[.int .u64 a0_0, .int .u64 a0_1] 25 (0, 0)) (by (with_reducible repeat (first | refine blk_drewN ?_ _ | refine blk_drew ?_ | refine blk_alloc ?_ _)); exact BK253.out) hb); have n1_ := Aside0.mk (blk_below (g := gb254) (o := .cells #[.int .u64 a1_0, .int .u64 a1_1, .int .u64 a1_2, .int .u64 a1_3] 27 (0, 0)) (by (with_reducible repeat (first | refine blk_drewN ?_ _ | refine blk_drew ?_ | refine blk_alloc ?_ _)); exact BK254.out) hb); have n2_ := Aside0.mk (below_step (by repeat (first | (with_reducible first | exact HB.out | apply below_alloc | apply pw_below_drewN | apply below_drew1 | refine below_set ?_ GE253.out | refine below_set ?_ GE254.out) | exact HB.out)) hb); have n3_ := Aside0.mk (hbox); have n4_ := Aside0.mk ((by rw [hg]; exact (below_size (by repeat (first | (with_reducible first | exact HB.out | apply below_alloc | apply pw_below_drewN | apply below_drew1 | refine below_set ?_ GE253.out | refine below_set ?_ GE254.out) | exact HB.out))) : w.heap.size ≤ gb259)); have n5_ := Aside0.mk ((by rw [hg]; exact (below_size (by repeat (first | (with_reducible first | exact HB.out | apply below_alloc | apply pw_below_drewN | apply below_drew1 | refine below_set ?_ GE253.out | refine below_set ?_ GE254.out) | exact HB.out))) : w.heap.size ≤ gb259)); have n6_ := Aside0.mk ((by rw [hg]; exact Nat.ne_of_lt (blk_lt (g := gb253) (o := .cells #[.int .u64 a0_0, .int .u64 a0_1] 25 (0, 0)) (by (with_reducible repeat (first | refine blk_drewN ?_ _ | refine blk_drew ?_ | refine blk_alloc ?_ _)); exact BK253.out)) : gb253 ≠ gb259)); have n7_ := Aside0.mk ((by rw [hg]; exact Nat.ne_of_gt (blk_lt (g := gb253) (o := .cells #[.int .u64 a0_0, .int .u64 a0_1] 25 (0, 0)) (by (with_reducible repeat (first | refine blk_drewN ?_ _ | refine blk_drew ?_ | refine blk_alloc ?_ _)); exact BK253.out)) : gb259 ≠ gb253)); have n8_ := Aside0.mk ((by rw [hg]; exact Nat.ne_of_lt (blk_lt (g := gb254) (o := .cells #[.int .u64 a1_0, .int .u64 a1_1, .int .u64 a1_2, .int .u64 a1_3] 27 (0, 0)) (by (with_reducible repeat (first | refine blk_drewN ?_ _ | refine blk_drew ?_ | refine blk_alloc ?_ _)); exact BK254.out)) : gb254 ≠ gb259)); have n9_ := Aside0.mk ((by rw [hg]; exact Nat.ne_of_gt (blk_lt (g := gb254) (o := .cells #[.int .u64 a1_0, .int .u64 a1_1, .int .u64 a1_2, .int .u64 a1_3] 27 (0, 0)) (by (with_reducible repeat (first | refine blk_drewN ?_ _ | refine blk_drew ?_ | refine blk_alloc ?_ _)); exact BK254.out)) : gb259 ≠ gb254)); clear BK253; clear BK254; clear HB; have BK253 := n0_; have BK254 := n1_; have HB := n2_; have BK259 := n3_; have GW259 := n4_; have GE259 := n5_; have NB253_259 := n6_; have NB259_253 := n7_; have NB254_259 := n8_; have NB259_254 := n9_; clear n0_ n1_ n2_ n3_ n4_ n5_ n6_ n7_ n8_ n9_; clear hb hbox hg; have hnb20 := NB259_253.out; have hnc20 := NB253_259.out; have hnb21 := NB259_254.out; have hnc21 := NB254_259.out; have hcz22_0 : w19.cell? ⟨gb259, 0, none⟩ = some (.int .u64 0) := (blk_cell BK259.out 0).trans rfl; have hcz22_1 : w19.cell? ⟨gb259, 1, none⟩ = some (.int .u64 0) := (blk_cell BK259.out 1).trans rfl; have hfz22_0 := blk_frozen BK259.out 0; have hfz22_1 := blk_frozen BK259.out 1; have hcz23_0 : w19.cell? ⟨gb253, 0, none⟩ = some (.int .u64 a0_0) := (blk_cell BK253.out 0).trans rfl; have hcz23_1 : w19.cell? ⟨gb253, 1, none⟩ = some (.int .u64 a0_1) := (blk_cell BK253.out 1).trans rfl; have hfz23_0 := blk_frozen BK253.out 0; have hfz23_1 := blk_frozen BK253.out 1) | ((with_reducible refine gate_callee (f := 11) rfl ?_); refine goesL_ (some 33) rfl rfl Try.func11 (by kernel_rfl) rfl #[.agg #[.int .u64 a0_0, .int .u64 a0_1], .int .u64 a2] rfl (by (try simp only [List.map_toArray, List.map_cons, List.map_nil]); first | done | rfl | (simp only [List.length_drop, List.length_take]; rfl)) ?_; (with_reducible refine (wigwagref19_Use.calls a0_0 a0_1 a2 t260 t261 t262 _ A7.out).mono ?_); rintro e w24 ⟨rfl, hb⟩; refine ⟨_, rfl, ?_⟩; have n0_ := Aside0.mk (blk_below (g := gb253) (o := .cells #[.int .u64 a0_0, .int .u64 a0_1] 25 (0, 0)) (by (with_reducible repeat (first | refine blk_drewN ?_ _ | refine blk_drew ?_ | refine blk_alloc ?_ _)); refine blk_far ?_ NB253_259.out _; (with_reducible repeat (first | refine blk_drewN ?_ _ | refine blk_drew ?_ | refine blk_alloc ?_ _)); refine blk_far ?_ NB253_259.out _; (with_reducible repeat (first | refine blk_drewN ?_ _ | refine blk_drew ?_ | refine blk_alloc ?_ _)); exact BK253.out) hb); have n1_ := Aside0.mk (blk_below (g := gb254) (o := .cells #[.int .u64 a1_0, .int .u64 a1_1, .int .u64 a1_2, .int .u64 a1_3] 27 (0, 0)) (by (with_reducible repeat (first | refine blk_drewN ?_ _ | refine blk_drew ?_ | refine blk_alloc ?_ _)); refine blk_far ?_ NB254_259.out _; (with_reducible repeat (first | refine blk_drewN ?_ _ | refine blk_drew ?_ | refine blk_alloc ?_ _)); refine blk_far ?_ NB254_259.out _; (with_reducible repeat (first | refine blk_drewN ?_ _ | refine blk_drew ?_ | refine blk_alloc ?_ _)); exact BK254.out) hb); have n2_ := Aside0.mk (blk_below (g := gb259) (o := .cells #[.int .u64 t256, .int .u64 t257] 25 (0, 0)) (by (with_reducible repeat (first | refine blk_drewN ?_ _ | refine blk_drew ?_ | refine blk_alloc ?_ _)); refine blk_put (cs := #[.int .u64 t256, .int .u64 0]) ?_ 1 _ rfl; (with_reducible repeat (first | refine blk_drewN ?_ _ | refine blk_drew ?_ | refine blk_alloc ?_ _)); refine blk_put (cs := #[.int .u64 0, .int .u64 0]) ?_ 0 _ rfl; (with_reducible repeat (first | refine blk_drewN ?_ _ | refine blk_drew ?_ | refine blk_alloc ?_ _)); exact BK259.out) hb); have n3_ := Aside0.mk (below_step (by repeat (first | (with_reducible first | exact HB.out | apply below_alloc | apply pw_below_drewN | apply below_drew1 | refine below_set ?_ GE253.out | refine below_set ?_ GE254.out | refine below_set ?_ GE259.out) | exact HB.out)) hb); clear BK253; clear BK254; clear BK259; clear HB; have BK253 := n0_; have BK254 := n1_; have BK259 := n2_; have HB := n3_; clear n0_ n1_ n2_ n3_; (try clear hb); (try clear hb2); (try clear hk); (try clear hi)) | ((with_reducible refine gate_dst (N := 12) rfl ?_); refine box_event ?hg (N := 12) ?hd (cs := #[.int .u64 0, .int .u64 0]) (t := 25) ?hr ?_; (case hd => rfl); (case hg => rfl); (case hr => first | (go_simp; done) | (go_simp; rfl)); intro gb263 hg w25 hbox hb; have n0_ := Aside0.mk (blk_below (g := gb253) (o := .cells #[.int .u64 a0_0, .int .u64 a0_1] 25 (0, 0)) (by (with_reducible repeat (first | refine blk_drewN ?_ _ | refine blk_drew ?_ | refine blk_alloc ?_ _)); exact BK253.out) hb); have n1_ := Aside0.mk (blk_below (g := gb254) (o := .cells #[.int .u64 a1_0, .int .u64 a1_1, .int .u64 a1_2, .int .u64 a1_3] 27 (0, 0)) (by (with_reducible repeat (first | refine blk_drewN ?_ _ | refine blk_drew ?_ | refine blk_alloc ?_ _)); exact BK254.out) hb); have n2_ := Aside0.mk (blk_below (g := gb259) (o := .cells #[.int .u64 t256, .int .u64 t257] 25 (0, 0)) (by (with_reducible repeat (first | refine blk_drewN ?_ _ | refine blk_drew ?_ | refine blk_alloc ?_ _)); exact BK259.out) hb); have n3_ := Aside0.mk (below_step (by repeat (first | (with_reducible first | exact HB.out | apply below_alloc | apply pw_below_drewN | apply below_drew1 | refine below_set ?_ GE253.out | refine below_set ?_ GE254.out | refine below_set ?_ GE259.out) | exact HB.out)) hb); have n4_ := Aside0.mk (hbox); have n5_ := Aside0.mk ((by rw [hg]; exact (below_size (by repeat (first | (with_reducible first | exact HB.out | apply below_alloc | apply pw_below_drewN | apply below_drew1 | refine below_set ?_ GE253.out | refine below_set ?_ GE254.out | refine below_set ?_ GE259.out) | exact HB.out))) : w.heap.size ≤ gb263)); have n6_ := Aside0.mk ((by rw [hg]; exact (below_size (by repeat (first | (with_reducible first | exact HB.out | apply below_alloc | apply pw_below_drewN | apply below_drew1 | refine below_set ?_ GE253.out | refine below_set ?_ GE254.out | refine below_set ?_ GE259.out) | exact HB.out))) : w.heap.size ≤ gb263)); have n7_ := Aside0.mk ((by rw [hg]; exact Nat.ne_of_lt (blk_lt (g := gb253) (o := .cells #[.int .u64 a0_0, .int .u64 a0_1] 25 (0, 0)) (by (with_reducible repeat (first | refine blk_drewN ?_ _ | refine blk_drew ?_ | refine blk_alloc ?_ _)); exact BK253.out)) : gb253 ≠ gb263)); have n8_ := Aside0.mk ((by rw [hg]; exact Nat.ne_of_gt (blk_lt (g := gb253) (o := .cells #[.int .u64 a0_0, .int .u64 a0_1] 25 (0, 0)) (by (with_reducible repeat (first | refine blk_drewN ?_ _ | refine blk_drew ?_ | refine blk_alloc ?_ _)); exact BK253.out)) : gb263 ≠ gb253)); have n9_ := Aside0.mk ((by rw [hg]; exact Nat.ne_of_lt (blk_lt (g := gb254) (o := .cells #[.int .u64 a1_0, .int .u64 a1_1, .int .u64 a1_2, .int .u64 a1_3] 27 (0, 0)) (by (with_reducible repeat (first | refine blk_drewN ?_ _ | refine blk_drew ?_ | refine blk_alloc ?_ _)); exact BK254.out)) : gb254 ≠ gb263)); have n10_ := Aside0.mk ((by rw [hg]; exact Nat.ne_of_gt (blk_lt (g := gb254) (o := .cells #[.int .u64 a1_0, .int .u64 a1_1, .int .u64 a1_2, .int .u64 a1_3] 27 (0, 0)) (by (with_reducible repeat (first | refine blk_drewN ?_ _ | refine blk_drew ?_ | refine blk_alloc ?_ _)); exact BK254.out)) : gb263 ≠ gb254)); have n11_ := Aside0.mk ((by rw [hg]; exact Nat.ne_of_lt (blk_lt (g := gb259) (o := .cells #[.int .u64 t256, .int .u64 t257] 25 (0, 0)) (by (with_reducible repeat (first | refine blk_drewN ?_ _ | refine blk_drew ?_ | refine blk_alloc ?_ _)); exact BK259.out)) : gb259 ≠ gb263)); have n12_ := Aside0.mk ((by rw [hg]; exact Nat.ne_of_gt (blk_lt (g := gb259) (o := .cells #[.int .u64 t256, .int .u64 t257] 25 (0, 0)) (by (with_reducible repeat (first | refine blk_drewN ?_ _ | refine blk_drew ?_ | refine blk_alloc ?_ _)); exact BK259.out)) : gb263 ≠ gb259)); clear BK253; clear BK254; clear BK259; clear HB; have BK253 := n0_; have BK254 := n1_; have BK259 := n2_; have HB := n3_; have BK263 := n4_; have GW263 := n5_; have GE263 := n6_; have NB253_263 := n7_; have NB263_253 := n8_; have NB254_263 := n9_; have NB263_254 := n10_; have NB259_263 := n11_; have NB263_259 := n12_; clear n0_ n1_ n2_ n3_ n4_ n5_ n6_ n7_ n8_ n9_ n10_ n11_ n12_; clear hb hbox hg; have hnb26 := NB263_253.out; have hnc26 := NB253_263.out; have hnb27 := NB263_254.out; have hnc27 := NB254_263.out; have hnb28 := NB263_259.out; have hnc28 := NB259_263.out; have hcz29_0 : w25.cell? ⟨gb263, 0, none⟩ = some (.int .u64 0) := (blk_cell BK263.out 0).trans rfl; have hcz29_1 : w25.cell? ⟨gb263, 1, none⟩ = some (.int .u64 0) := (blk_cell BK263.out 1).trans rfl; have hfz29_0 := blk_frozen BK263.out 0; have hfz29_1 := blk_frozen BK263.out 1; have hcz30_0 : w25.cell? ⟨gb254, 0, none⟩ = some (.int .u64 a1_0) := (blk_cell BK254.out 0).trans rfl; have hcz30_1 : w25.cell? ⟨gb254, 1, none⟩ = some (.int .u64 a1_1) := (blk_cell BK254.out 1).trans rfl; have hcz30_2 : w25.cell? ⟨gb254, 2, none⟩ = some (.int .u64 a1_2) := (blk_cell BK254.out 2).trans rfl; have hcz30_3 : w25.cell? ⟨gb254, 3, none⟩ = some (.int .u64 a1_3) := (blk_cell BK254.out 3).trans rfl; have hfz30_0 := blk_frozen BK254.out 0; have hfz30_1 := blk_frozen BK254.out 1; have hfz30_2 := blk_frozen BK254.out 2; have hfz30_3 := blk_frozen BK254.out 3) | ((with_reducible refine gate_callee (f := 12) rfl ?_); refine goesL_ (some 39) rfl rfl Try.func12 (by kernel_rfl) rfl #[.agg #[.int .u64 a1_0, .int .u64 a1_1, .int .u64 a1_2, .int .u64 a1_3], .int .u64 a2] rfl (by (try simp only [List.map_toArray, List.map_cons, List.map_nil]); first | done | rfl | (simp only [List.length_drop, List.length_take]; rfl)) ?_; (with_reducible refine (credit_Come.calls a1_0 a1_1 a1_2 a1_3 a2 t264 t265 t266 t267 t268 _ A8.out).mono ?_); rintro e w31 ⟨rfl, hb⟩; refine ⟨_, rfl, ?_⟩; have n0_ := Aside0.mk (blk_below (g := gb253) (o := .cells #[.int .u64 a0_0, .int .u64 a0_1] 25 (0, 0)) (by (with_reducible repeat (first | refine blk_drewN ?_ _ | refine blk_drew ?_ | refine blk_alloc ?_ _)); refine blk_far ?_ NB253_263.out _; (with_reducible repeat (first | refine blk_drewN ?_ _ | refine blk_drew ?_ | refine blk_alloc ?_ _)); refine blk_far ?_ NB253_263.out _; (with_reducible repeat (first | refine blk_drewN ?_ _ | refine blk_drew ?_ | refine blk_alloc ?_ _)); exact BK253.out) hb); have n1_ := Aside0.mk (blk_below (g := gb254) (o := .cells #[.int .u64 a1_0, .int .u64 a1_1, .int .u64 a1_2, .int .u64 a1_3] 27 (0, 0)) (by (with_reducible repeat (first | refine blk_drewN ?_ _ | refine blk_drew ?_ | refine blk_alloc ?_ _)); refine blk_far ?_ NB254_263.out _; (with_reducible repeat (first | refine blk_drewN ?_ _ | refine blk_drew ?_ | refine blk_alloc ?_ _)); refine blk_far ?_ NB254_263.out _; (with_reducible repeat (first | refine blk_drewN ?_ _ | refine blk_drew ?_ | refine blk_alloc ?_ _)); exact BK254.out) hb); have n2_ := Aside0.mk (blk_below (g := gb259) (o := .cells #[.int .u64 t256, .int .u64 t257] 25 (0, 0)) (by (with_reducible repeat (first | refine blk_drewN ?_ _ | refine blk_drew ?_ | refine blk_alloc ?_ _)); refine blk_far ?_ NB259_263.out _; (with_reducible repeat (first | refine blk_drewN ?_ _ | refine blk_drew ?_ | refine blk_alloc ?_ _)); refine blk_far ?_ NB259_263.out _; (with_reducible repeat (first | refine blk_drewN ?_ _ | refine blk_drew ?_ | refine blk_alloc ?_ _)); exact BK259.out) hb); have n3_ := Aside0.mk (blk_below (g := gb263) (o := .cells #[.int .u64 t260, .int .u64 t261] 25 (0, 0)) (by (with_reducible repeat (first | refine blk_drewN ?_ _ | refine blk_drew ?_ | refine blk_alloc ?_ _)); refine blk_put (cs := #[.int .u64 t260, .int .u64 0]) ?_ 1 _ rfl; (with_reducible repeat (first | refine blk_drewN ?_ _ | refine blk_drew ?_ | refine blk_alloc ?_ _)); refine blk_put (cs := #[.int .u64 0, .int .u64 0]) ?_ 0 _ rfl; (with_reducible repeat (first | refine blk_drewN ?_ _ | refine blk_drew ?_ | refine blk_alloc ?_ _)); exact BK263.out) hb); have n4_ := Aside0.mk (below_step (by repeat (first | (with_reducible first | exact HB.out | apply below_alloc | apply pw_below_drewN | apply below_drew1 | refine below_set ?_ GE253.out | refine below_set ?_ GE254.out | refine below_set ?_ GE259.out | refine below_set ?_ GE263.out) | exact HB.out)) hb); clear BK253; clear BK254; clear BK259; clear BK263; clear HB; have BK253 := n0_; have BK254 := n1_; have BK259 := n2_; have BK263 := n3_; have HB := n4_; clear n0_ n1_ n2_ n3_ n4_; (try clear hb); (try clear hb2); (try clear hk); (try clear hi)) | ((with_reducible refine gate_dst (N := 14) rfl ?_); refine box_event ?hg (N := 14) ?hd (cs := #[.int .u64 0, .int .u64 0, .int .u64 0, .int .u64 0]) (t := 27) ?hr ?_; (case hd => rfl); (case hg => rfl); (case hr => first | (go_simp; done) | (go_simp; rfl)); intro gb269 hg w32 hbox hb; have n0_ := Aside0.mk (blk_below (g := gb253) (o := .cells #[.int .u64 a0_0, .int .u64 a0_1] 25 (0, 0)) (by (with_reducible repeat (first | refine blk_drewN ?_ _ | refine blk_drew ?_ | refine blk_alloc ?_ _)); exact BK253.out) hb); have n1_ := Aside0.mk (blk_below (g := gb254) (o := .cells #[.int .u64 a1_0, .int .u64 a1_1, .int .u64 a1_2, .int .u64 a1_3] 27 (0, 0)) (by (with_reducible repeat (first | refine blk_drewN ?_ _ | refine blk_drew ?_ | refine blk_alloc ?_ _)); exact BK254.out) hb); have n2_ := Aside0.mk (blk_below (g := gb259) (o := .cells #[.int .u64 t256, .int .u64 t257] 25 (0, 0)) (by (with_reducible repeat (first | refine blk_drewN ?_ _ | refine blk_drew ?_ | refine blk_alloc ?_ _)); exact BK259.out) hb); have n3_ := Aside0.mk (blk_below (g := gb263) (o := .cells #[.int .u64 t260, .int .u64 t261] 25 (0, 0)) (by (with_reducible repeat (first | refine blk_drewN ?_ _ | refine blk_drew ?_ | refine blk_alloc ?_ _)); exact BK263.out) hb); have n4_ := Aside0.mk (below_step (by repeat (first | (with_reducible first | exact HB.out | apply below_alloc | apply pw_below_drewN | apply below_drew1 | refine below_set ?_ GE253.out | refine below_set ?_ GE254.out | refine below_set ?_ GE259.out | refine below_set ?_ GE263.out) | exact HB.out)) hb); have n5_ := Aside0.mk (hbox); have n6_ := Aside0.mk ((by rw [hg]; exact (below_size (by repeat (first | (with_reducible first | exact HB.out | apply below_alloc | apply pw_below_drewN | apply below_drew1 | refine below_set ?_ GE253.out | refine below_set ?_ GE254.out | refine below_set ?_ GE259.out | refine below_set ?_ GE263.out) | exact HB.out))) : w.heap.size ≤ gb269)); have n7_ := Aside0.mk ((by rw [hg]; exact (below_size (by repeat (first | (with_reducible first | exact HB.out | apply below_alloc | apply pw_below_drewN | apply below_drew1 | refine below_set ?_ GE253.out | refine below_set ?_ GE254.out | refine below_set ?_ GE259.out | refine below_set ?_ GE263.out) | exact HB.out))) : w.heap.size ≤ gb269)); have n8_ := Aside0.mk ((by rw [hg]; exact Nat.ne_of_lt (blk_lt (g := gb253) (o := .cells #[.int .u64 a0_0, .int .u64 a0_1] 25 (0, 0)) (by (with_reducible repeat (first | refine blk_drewN ?_ _ | refine blk_drew ?_ | refine blk_alloc ?_ _)); exact BK253.out)) : gb253 ≠ gb269)); have n9_ := Aside0.mk ((by rw [hg]; exact Nat.ne_of_gt (blk_lt (g := gb253) (o := .cells #[.int .u64 a0_0, .int .u64 a0_1] 25 (0, 0)) (by (with_reducible repeat (first | refine blk_drewN ?_ _ | refine blk_drew ?_ | refine blk_alloc ?_ _)); exact BK253.out)) : gb269 ≠ gb253)); have n10_ := Aside0.mk ((by rw [hg]; exact Nat.ne_of_lt (blk_lt (g := gb254) (o := .cells #[.int .u64 a1_0, .int .u64 a1_1, .int .u64 a1_2, .int .u64 a1_3] 27 (0, 0)) (by (with_reducible repeat (first | refine blk_drewN ?_ _ | refine blk_drew ?_ | refine blk_alloc ?_ _)); exact BK254.out)) : gb254 ≠ gb269)); have n11_ := Aside0.mk ((by rw [hg]; exact Nat.ne_of_gt (blk_lt (g := gb254) (o := .cells #[.int .u64 a1_0, .int .u64 a1_1, .int .u64 a1_2, .int .u64 a1_3] 27 (0, 0)) (by (with_reducible repeat (first | refine blk_drewN ?_ _ | refine blk_drew ?_ | refine blk_alloc ?_ _)); exact BK254.out)) : gb269 ≠ gb254)); have n12_ := Aside0.mk ((by rw [hg]; exact Nat.ne_of_lt (blk_lt (g := gb259) (o := .cells #[.int .u64 t256, .int .u64 t257] 25 (0, 0)) (by (with_reducible repeat (first | refine blk_drewN ?_ _ | refine blk_drew ?_ | refine blk_alloc ?_ _)); exact BK259.out)) : gb259 ≠ gb269)); have n13_ := Aside0.mk ((by rw [hg]; exact Nat.ne_of_gt (blk_lt (g := gb259) (o := .cells #[.int .u64 t256, .int .u64 t257] 25 (0, 0)) (by (with_reducible repeat (first | refine blk_drewN ?_ _ | refine blk_drew ?_ | refine blk_alloc ?_ _)); exact BK259.out)) : gb269 ≠ gb259)); have n14_ := Aside0.mk ((by rw [hg]; exact Nat.ne_of_lt (blk_lt (g := gb263) (o := .cells #[.int .u64 t260, .int .u64 t261] 25 (0, 0)) (by (with_reducible repeat (first | refine blk_drewN ?_ _ | refine blk_drew ?_ | refine blk_alloc ?_ _)); exact BK263.out)) : gb263 ≠ gb269)); have n15_ := Aside0.mk ((by rw [hg]; exact Nat.ne_of_gt (blk_lt (g := gb263) (o := .cells #[.int .u64 t260, .int .u64 t261] 25 (0, 0)) (by (with_reducible repeat (first | refine blk_drewN ?_ _ | refine blk_drew ?_ | refine blk_alloc ?_ _)); exact BK263.out)) : gb269 ≠ gb263)); clear BK253; clear BK254; clear BK259; clear BK263; clear HB; have BK253 := n0_; have BK254 := n1_; have BK259 := n2_; have BK263 := n3_; have HB := n4_; have BK269 := n5_; have GW269 := n6_; have GE269 := n7_; have NB253_269 := n8_; have NB269_253 := n9_; have NB254_269 := n10_; have NB269_254 := n11_; have NB259_269 := n12_; have NB269_259 := n13_; have NB263_269 := n14_; have NB269_263 := n15_; clear n0_ n1_ n2_ n3_ n4_ n5_ n6_ n7_ n8_ n9_ n10_ n11_ n12_ n13_ n14_ n15_; clear hb hbox hg; have hnb33 := NB269_253.out; have hnc33 := NB253_269.out; have hnb34 := NB269_254.out; have hnc34 := NB254_269.out; have hnb35 := NB269_259.out; have hnc35 := NB259_269.out; have hnb36 := NB269_263.out; have hnc36 := NB263_269.out; have hcz37_0 : w32.cell? ⟨gb269, 0, none⟩ = some (.int .u64 0) := (blk_cell BK269.out 0).trans rfl; have hcz37_1 : w32.cell? ⟨gb269, 1, none⟩ = some (.int .u64 0) := (blk_cell BK269.out 1).trans rfl; have hcz37_2 : w32.cell? ⟨gb269, 2, none⟩ = some (.int .u64 0) := (blk_cell BK269.out 2).trans rfl; have hcz37_3 : w32.cell? ⟨gb269, 3, none⟩ = some (.int .u64 0) := (blk_cell BK269.out 3).trans rfl; have hfz37_0 := blk_frozen BK269.out 0; have hfz37_1 := blk_frozen BK269.out 1; have hfz37_2 := blk_frozen BK269.out 2; have hfz37_3 := blk_frozen BK269.out 3; have hcz38_0 : w32.cell? ⟨gb254, 0, none⟩ = some (.int .u64 a1_0) := (blk_cell BK254.out 0).trans rfl; have hcz38_1 : w32.cell? ⟨gb254, 1, none⟩ = some (.int .u64 a1_1) := (blk_cell BK254.out 1).trans rfl; have hcz38_2 : w32.cell? ⟨gb254, 2, none⟩ = some (.int .u64 a1_2) := (blk_cell BK254.out 2).trans rfl; have hcz38_3 : w32.cell? ⟨gb254, 3, none⟩ = some (.int .u64 a1_3) := (blk_cell BK254.out 3).trans rfl; have hfz38_0 := blk_frozen BK254.out 0; have hfz38_1 := blk_frozen BK254.out 1; have hfz38_2 := blk_frozen BK254.out 2; have hfz38_3 := blk_frozen BK254.out 3) | ((with_reducible refine gate_callee (f := 13) rfl ?_); refine goesL_ (some 45) rfl rfl Try.func13 (by kernel_rfl) rfl #[.agg #[.int .u64 a1_0, .int .u64 a1_1, .int .u64 a1_2, .int .u64 a1_3], .int .u64 a2] rfl (by (try simp only [List.map_toArray, List.map_cons, List.map_nil]); first | done | rfl | (simp only [List.length_drop, List.length_take]; rfl)) ?_; (with_reducible refine (wigwagref19_Come.calls a1_0 a1_1 a1_2 a1_3 a2 t270 t271 t272 t273 t274 _ A9.out).mono ?_); rintro e w39 ⟨rfl, hb⟩; refine ⟨_, rfl, ?_⟩; have n0_ := Aside0.mk (blk_below (g := gb253) (o := .cells #[.int .u64 a0_0, .int .u64 a0_1] 25 (0, 0)) (by (with_reducible repeat (first | refine blk_drewN ?_ _ | refine blk_drew ?_ | refine blk_alloc ?_ _)); refine blk_far ?_ NB253_269.out _; (with_reducible repeat (first | refine blk_drewN ?_ _ | refine blk_drew ?_ | refine blk_alloc ?_ _)); refine blk_far ?_ NB253_269.out _; (with_reducible repeat (first | refine blk_drewN ?_ _ | refine blk_drew ?_ | refine blk_alloc ?_ _)); refine blk_far ?_ NB253_269.out _; (with_reducible repeat (first | refine blk_drewN ?_ _ | refine blk_drew ?_ | refine blk_alloc ?_ _)); refine blk_far ?_ NB253_269.out _; (with_reducible repeat (first | refine blk_drewN ?_ _ | refine blk_drew ?_ | refine blk_alloc ?_ _)); exact BK253.out) hb); have n1_ := Aside0.mk (blk_below (g := gb254) (o := .cells #[.int .u64 a1_0, .int .u64 a1_1, .int .u64 a1_2, .int .u64 a1_3] 27 (0, 0)) (by (with_reducible repeat (first | refine blk_drewN ?_ _ | refine blk_drew ?_ | refine blk_alloc ?_ _)); refine blk_far ?_ NB254_269.out _; (with_reducible repeat (first | refine blk_drewN ?_ _ | refine blk_drew ?_ | refine blk_alloc ?_ _)); refine blk_far ?_ NB254_269.out _; (with_reducible repeat (first | refine blk_drewN ?_ _ | refine blk_drew ?_ | refine blk_alloc ?_ _)); refine blk_far ?_ NB254_269.out _; (with_reducible repeat (first | refine blk_drewN ?_ _ | refine blk_drew ?_ | refine blk_alloc ?_ _)); refine blk_far ?_ NB254_269.out _; (with_reducible repeat (first | refine blk_drewN ?_ _ | refine blk_drew ?_ | refine blk_alloc ?_ _)); exact BK254.out) hb); have n2_ := Aside0.mk (blk_below (g := gb259) (o := .cells #[.int .u64 t256, .int .u64 t257] 25 (0, 0)) (by (with_reducible repeat (first | refine blk_drewN ?_ _ | refine blk_drew ?_ | refine blk_alloc ?_ _)); refine blk_far ?_ NB259_269.out _; (with_reducible repeat (first | refine blk_drewN ?_ _ | refine blk_drew ?_ | refine blk_alloc ?_ _)); refine blk_far ?_ NB259_269.out _; (with_reducible repeat (first | refine blk_drewN ?_ _ | refine blk_drew ?_ | refine blk_alloc ?_ _)); refine blk_far ?_ NB259_269.out _; (with_reducible repeat (first | refine blk_drewN ?_ _ | refine blk_drew ?_ | refine blk_alloc ?_ _)); refine blk_far ?_ NB259_269.out _; (with_reducible repeat (first | refine blk_drewN ?_ _ | refine blk_drew ?_ | refine blk_alloc ?_ _)); exact BK259.out) hb); have n3_ := Aside0.mk (blk_below (g := gb263) (o := .cells #[.int .u64 t260, .int .u64 t261] 25 (0, 0)) (by (with_reducible repeat (first | refine blk_drewN ?_ _ | refine blk_drew ?_ | refine blk_alloc ?_ _)); refine blk_far ?_ NB263_269.out _; (with_reducible repeat (first | refine blk_drewN ?_ _ | refine blk_drew ?_ | refine blk_alloc ?_ _)); refine blk_far ?_ NB263_269.out _; (with_reducible repeat (first | refine blk_drewN ?_ _ | refine blk_drew ?_ | refine blk_alloc ?_ _)); refine blk_far ?_ NB263_269.out _; (with_reducible repeat (first | refine blk_drewN ?_ _ | refine blk_drew ?_ | refine blk_alloc ?_ _)); refine blk_far ?_ NB263_269.out _; (with_reducible repeat (first | refine blk_drewN ?_ _ | refine blk_drew ?_ | refine blk_alloc ?_ _)); exact BK263.out) hb); have n4_ := Aside0.mk (blk_below (g := gb269) (o := .cells #[.int .u64 t264, .int .u64 t265, .int .u64 t266, .int .u64 t267] 27 (0, 0)) (by (with_reducible repeat (first | refine blk_drewN ?_ _ | refine blk_drew ?_ | refine blk_alloc ?_ _)); refine blk_put (cs := #[.int .u64 t264, .int .u64 t265, .int .u64 t266, .int .u64 0]) ?_ 3 _ rfl; (with_reducible repeat (first | refine blk_drewN ?_ _ | refine blk_drew ?_ | refine blk_alloc ?_ _)); refine blk_put (cs := #[.int .u64 t264, .int .u64 t265, .int .u64 0, .int .u64 0]) ?_ 2 _ rfl; (with_reducible repeat (first | refine blk_drewN ?_ _ | refine blk_drew ?_ | refine blk_alloc ?_ _)); refine blk_put (cs := #[.int .u64 t264, .int .u64 0, .int .u64 0, .int .u64 0]) ?_ 1 _ rfl; (with_reducible repeat (first | refine blk_drewN ?_ _ | refine blk_drew ?_ | refine blk_alloc ?_ _)); refine blk_put (cs := #[.int .u64 0, .int .u64 0, .int .u64 0, .int .u64 0]) ?_ 0 _ rfl; (with_reducible repeat (first | refine blk_drewN ?_ _ | refine blk_drew ?_ | refine blk_alloc ?_ _)); exact BK269.out) hb); have n5_ := Aside0.mk (below_step (by repeat (first | (with_reducible first | exact HB.out | apply below_alloc | apply pw_below_drewN | apply below_drew1 | refine below_set ?_ GE253.out | refine below_set ?_ GE254.out | refine below_set ?_ GE259.out | refine below_set ?_ GE263.out | refine below_set ?_ GE269.out) | exact HB.out)) hb); clear BK253; clear BK254; clear BK259; clear BK263; clear BK269; clear HB; have BK253 := n0_; have BK254 := n1_; have BK259 := n2_; have BK263 := n3_; have BK269 := n4_; have HB := n5_; clear n0_ n1_ n2_ n3_ n4_ n5_; (try clear hb); (try clear hb2); (try clear hk); (try clear hi)) | ((with_reducible refine gate_dst (N := 16) rfl ?_); refine box_event ?hg (N := 16) ?hd (cs := #[.int .u64 0, .int .u64 0, .int .u64 0, .int .u64 0]) (t := 27) ?hr ?_; (case hd => rfl); (case hg => rfl); (case hr => first | (go_simp; done) | (go_simp; rfl)); intro gb275 hg w40 hbox hb; have n0_ := Aside0.mk (blk_below (g := gb253) (o := .cells #[.int .u64 a0_0, .int .u64 a0_1] 25 (0, 0)) (by (with_reducible repeat (first | refine blk_drewN ?_ _ | refine blk_drew ?_ | refine blk_alloc ?_ _)); exact BK253.out) hb); have n1_ := Aside0.mk (blk_below (g := gb254) (o := .cells #[.int .u64 a1_0, .int .u64 a1_1, .int .u64 a1_2, .int .u64 a1_3] 27 (0, 0)) (by (with_reducible repeat (first | refine blk_drewN ?_ _ | refine blk_drew ?_ | refine blk_alloc ?_ _)); exact BK254.out) hb); have n2_ := Aside0.mk (blk_below (g := gb259) (o := .cells #[.int .u64 t256, .int .u64 t257] 25 (0, 0)) (by (with_reducible repeat (first | refine blk_drewN ?_ _ | refine blk_drew ?_ | refine blk_alloc ?_ _)); exact BK259.out) hb); have n3_ := Aside0.mk (blk_below (g := gb263) (o := .cells #[.int .u64 t260, .int .u64 t261] 25 (0, 0)) (by (with_reducible repeat (first | refine blk_drewN ?_ _ | refine blk_drew ?_ | refine blk_alloc ?_ _)); exact BK263.out) hb); have n4_ := Aside0.mk (blk_below (g := gb269) (o := .cells #[.int .u64 t264, .int .u64 t265, .int .u64 t266, .int .u64 t267] 27 (0, 0)) (by (with_reducible repeat (first | refine blk_drewN ?_ _ | refine blk_drew ?_ | refine blk_alloc ?_ _)); exact BK269.out) hb); have n5_ := Aside0.mk (below_step (by repeat (first | (with_reducible first | exact HB.out | apply below_alloc | apply pw_below_drewN | apply below_drew1 | refine below_set ?_ GE253.out | refine below_set ?_ GE254.out | refine below_set ?_ GE259.out | refine below_set ?_ GE263.out | refine below_set ?_ GE269.out) | exact HB.out)) hb); have n6_ := Aside0.mk (hbox); have n7_ := Aside0.mk ((by rw [hg]; exact (below_size (by repeat (first | (with_reducible first | exact HB.out | apply below_alloc | apply pw_below_drewN | apply below_drew1 | refine below_set ?_ GE253.out | refine below_set ?_ GE254.out | refine below_set ?_ GE259.out | refine below_set ?_ GE263.out | refine below_set ?_ GE269.out) | exact HB.out))) : w.heap.size ≤ gb275)); have n8_ := Aside0.mk ((by rw [hg]; exact (below_size (by repeat (first | (with_reducible first | exact HB.out | apply below_alloc | apply pw_below_drewN | apply below_drew1 | refine below_set ?_ GE253.out | refine below_set ?_ GE254.out | refine below_set ?_ GE259.out | refine below_set ?_ GE263.out | refine below_set ?_ GE269.out) | exact HB.out))) : w.heap.size ≤ gb275)); have n9_ := Aside0.mk ((by rw [hg]; exact Nat.ne_of_lt (blk_lt (g := gb253) (o := .cells #[.int .u64 a0_0, .int .u64 a0_1] 25 (0, 0)) (by (with_reducible repeat (first | refine blk_drewN ?_ _ | refine blk_drew ?_ | refine blk_alloc ?_ _)); exact BK253.out)) : gb253 ≠ gb275)); have n10_ := Aside0.mk ((by rw [hg]; exact Nat.ne_of_gt (blk_lt (g := gb253) (o := .cells #[.int .u64 a0_0, .int .u64 a0_1] 25 (0, 0)) (by (with_reducible repeat (first | refine blk_drewN ?_ _ | refine blk_drew ?_ | refine blk_alloc ?_ _)); exact BK253.out)) : gb275 ≠ gb253)); have n11_ := Aside0.mk ((by rw [hg]; exact Nat.ne_of_lt (blk_lt (g := gb254) (o := .cells #[.int .u64 a1_0, .int .u64 a1_1, .int .u64 a1_2, .int .u64 a1_3] 27 (0, 0)) (by (with_reducible repeat (first | refine blk_drewN ?_ _ | refine blk_drew ?_ | refine blk_alloc ?_ _)); exact BK254.out)) : gb254 ≠ gb275)); have n12_ := Aside0.mk ((by rw [hg]; exact Nat.ne_of_gt (blk_lt (g := gb254) (o := .cells #[.int .u64 a1_0, .int .u64 a1_1, .int .u64 a1_2, .int .u64 a1_3] 27 (0, 0)) (by (with_reducible repeat (first | refine blk_drewN ?_ _ | refine blk_drew ?_ | refine blk_alloc ?_ _)); exact BK254.out)) : gb275 ≠ gb254)); have n13_ := Aside0.mk ((by rw [hg]; exact Nat.ne_of_lt (blk_lt (g := gb259) (o := .cells #[.int .u64 t256, .int .u64 t257] 25 (0, 0)) (by (with_reducible repeat (first | refine blk_drewN ?_ _ | refine blk_drew ?_ | refine blk_alloc ?_ _)); exact BK259.out)) : gb259 ≠ gb275)); have n14_ := Aside0.mk ((by rw [hg]; exact Nat.ne_of_gt (blk_lt (g := gb259) (o := .cells #[.int .u64 t256, .int .u64 t257] 25 (0, 0)) (by (with_reducible repeat (first | refine blk_drewN ?_ _ | refine blk_drew ?_ | refine blk_alloc ?_ _)); exact BK259.out)) : gb275 ≠ gb259)); have n15_ := Aside0.mk ((by rw [hg]; exact Nat.ne_of_lt (blk_lt (g := gb263) (o := .cells #[.int .u64 t260, .int .u64 t261] 25 (0, 0)) (by (with_reducible repeat (first | refine blk_drewN ?_ _ | refine blk_drew ?_ | refine blk_alloc ?_ _)); exact BK263.out)) : gb263 ≠ gb275)); have n16_ := Aside0.mk ((by rw [hg]; exact Nat.ne_of_gt (blk_lt (g := gb263) (o := .cells #[.int .u64 t260, .int .u64 t261] 25 (0, 0)) (by (with_reducible repeat (first | refine blk_drewN ?_ _ | refine blk_drew ?_ | refine blk_alloc ?_ _)); exact BK263.out)) : gb275 ≠ gb263)); have n17_ := Aside0.mk ((by rw [hg]; exact Nat.ne_of_lt (blk_lt (g := gb269) (o := .cells #[.int .u64 t264, .int .u64 t265, .int .u64 t266, .int .u64 t267] 27 (0, 0)) (by (with_reducible repeat (first | refine blk_drewN ?_ _ | refine blk_drew ?_ | refine blk_alloc ?_ _)); exact BK269.out)) : gb269 ≠ gb275)); have n18_ := Aside0.mk ((by rw [hg]; exact Nat.ne_of_gt (blk_lt (g := gb269) (o := .cells #[.int .u64 t264, .int .u64 t265, .int .u64 t266, .int .u64 t267] 27 (0, 0)) (by (with_reducible repeat (first | refine blk_drewN ?_ _ | refine blk_drew ?_ | refine blk_alloc ?_ _)); exact BK269.out)) : gb275 ≠ gb269)); clear BK253; clear BK254; clear BK259; clear BK263; clear BK269; clear HB; have BK253 := n0_; have BK254 := n1_; have BK259 := n2_; have BK263 := n3_; have BK269 := n4_; have HB := n5_; have BK275 := n6_; have GW275 := n7_; have GE275 := n8_; have NB253_275 := n9_; have NB275_253 := n10_; have NB254_275 := n11_; have NB275_254 := n12_; have NB259_275 := n13_; have NB275_259 := n14_; have NB263_275 := n15_; have NB275_263 := n16_; have NB269_275 := n17_; have NB275_269 := n18_; clear n0_ n1_ n2_ n3_ n4_ n5_ n6_ n7_ n8_ n9_ n10_ n11_ n12_ n13_ n14_ n15_ n16_ n17_ n18_; clear hb hbox hg; have hnb41 := NB275_253.out; have hnc41 := NB253_275.out; have hnb42 := NB275_254.out; have hnc42 := NB254_275.out; have hnb43 := NB275_259.out; have hnc43 := NB259_275.out; have hnb44 := NB275_263.out; have hnc44 := NB263_275.out; have hnb45 := NB275_269.out; have hnc45 := NB269_275.out; have hcz46_0 : w40.cell? ⟨gb275, 0, none⟩ = some (.int .u64 0) := (blk_cell BK275.out 0).trans rfl; have hcz46_1 : w40.cell? ⟨gb275, 1, none⟩ = some (.int .u64 0) := (blk_cell BK275.out 1).trans rfl; have hcz46_2 : w40.cell? ⟨gb275, 2, none⟩ = some (.int .u64 0) := (blk_cell BK275.out 2).trans rfl; have hcz46_3 : w40.cell? ⟨gb275, 3, none⟩ = some (.int .u64 0) := (blk_cell BK275.out 3).trans rfl; have hfz46_0 := blk_frozen BK275.out 0; have hfz46_1 := blk_frozen BK275.out 1; have hfz46_2 := blk_frozen BK275.out 2; have hfz46_3 := blk_frozen BK275.out 3; have hcz47_0 : w40.cell? ⟨gb254, 0, none⟩ = some (.int .u64 a1_0) := (blk_cell BK254.out 0).trans rfl; have hcz47_1 : w40.cell? ⟨gb254, 1, none⟩ = some (.int .u64 a1_1) := (blk_cell BK254.out 1).trans rfl; have hcz47_2 : w40.cell? ⟨gb254, 2, none⟩ = some (.int .u64 a1_2) := (blk_cell BK254.out 2).trans rfl; have hcz47_3 : w40.cell? ⟨gb254, 3, none⟩ = some (.int .u64 a1_3) := (blk_cell BK254.out 3).trans rfl; have hfz47_0 := blk_frozen BK254.out 0; have hfz47_1 := blk_frozen BK254.out 1; have hfz47_2 := blk_frozen BK254.out 2; have hfz47_3 := blk_frozen BK254.out 3) | ((with_reducible refine gate_callee (f := 14) rfl ?_); refine goesL_ (some 51) rfl rfl Try.func14 (by kernel_rfl) rfl #[.agg #[.int .u64 a1_0, .int .u64 a1_1, .int .u64 a1_2, .int .u64 a1_3], .int .u64 a2] rfl (by (try simp only [List.map_toArray, List.map_cons, List.map_nil]); first | done | rfl | (simp only [List.length_drop, List.length_take]; rfl)) ?_; (with_reducible refine (credit_Read.calls a1_0 a1_1 a1_2 a1_3 a2 t276 t277 t278 t279 t280 _ A10.out).mono ?_); rintro e w48 ⟨rfl, hb⟩; refine ⟨_, rfl, ?_⟩; have n0_ := Aside0.mk (blk_below (g := gb253) (o := .cells #[.int .u64 a0_0, .int .u64 a0_1] 25 (0, 0)) (by (with_reducible repeat (first | refine blk_drewN ?_ _ | refine blk_drew ?_ | refine blk_alloc ?_ _)); refine blk_far ?_ NB253_275.out _; (with_reducible repeat (first | refine blk_drewN ?_ _ | refine blk_drew ?_ | refine blk_alloc ?_ _)); refine blk_far ?_ NB253_275.out _; (with_reducible repeat (first | refine blk_drewN ?_ _ | refine blk_drew ?_ | refine blk_alloc ?_ _)); refine blk_far ?_ NB253_275.out _; (with_reducible repeat (first | refine blk_drewN ?_ _ | refine blk_drew ?_ | refine blk_alloc ?_ _)); refine blk_far ?_ NB253_275.out _; (with_reducible repeat (first | refine blk_drewN ?_ _ | refine blk_drew ?_ | refine blk_alloc ?_ _)); exact BK253.out) hb); have n1_ := Aside0.mk (blk_below (g := gb254) (o := .cells #[.int .u64 a1_0, .int .u64 a1_1, .int .u64 a1_2, .int .u64 a1_3] 27 (0, 0)) (by (with_reducible repeat (first | refine blk_drewN ?_ _ | refine blk_drew ?_ | refine blk_alloc ?_ _)); refine blk_far ?_ NB254_275.out _; (with_reducible repeat (first | refine blk_drewN ?_ _ | refine blk_drew ?_ | refine blk_alloc ?_ _)); refine blk_far ?_ NB254_275.out _; (with_reducible repeat (first | refine blk_drewN ?_ _ | refine blk_drew ?_ | refine blk_alloc ?_ _)); refine blk_far ?_ NB254_275.out _; (with_reducible repeat (first | refine blk_drewN ?_ _ | refine blk_drew ?_ | refine blk_alloc ?_ _)); refine blk_far ?_ NB254_275.out _; (with_reducible repeat (first | refine blk_drewN ?_ _ | refine blk_drew ?_ | refine blk_alloc ?_ _)); exact BK254.out) hb); have n2_ := Aside0.mk (blk_below (g := gb259) (o := .cells #[.int .u64 t256, .int .u64 t257] 25 (0, 0)) (by (with_reducible repeat (first | refine blk_drewN ?_ _ | refine blk_drew ?_ | refine blk_alloc ?_ _)); refine blk_far ?_ NB259_275.out _; (with_reducible repeat (first | refine blk_drewN ?_ _ | refine blk_drew ?_ | refine blk_alloc ?_ _)); refine blk_far ?_ NB259_275.out _; (with_reducible repeat (first | refine blk_drewN ?_ _ | refine blk_drew ?_ | refine blk_alloc ?_ _)); refine blk_far ?_ NB259_275.out _; (with_reducible repeat (first | refine blk_drewN ?_ _ | refine blk_drew ?_ | refine blk_alloc ?_ _)); refine blk_far ?_ NB259_275.out _; (with_reducible repeat (first | refine blk_drewN ?_ _ | refine blk_drew ?_ | refine blk_alloc ?_ _)); exact BK259.out) hb); have n3_ := Aside0.mk (blk_below (g := gb263) (o := .cells #[.int .u64 t260, .int .u64 t261] 25 (0, 0)) (by (with_reducible repeat (first | refine blk_drewN ?_ _ | refine blk_drew ?_ | refine blk_alloc ?_ _)); refine blk_far ?_ NB263_275.out _; (with_reducible repeat (first | refine blk_drewN ?_ _ | refine blk_drew ?_ | refine blk_alloc ?_ _)); refine blk_far ?_ NB263_275.out _; (with_reducible repeat (first | refine blk_drewN ?_ _ | refine blk_drew ?_ | refine blk_alloc ?_ _)); refine blk_far ?_ NB263_275.out _; (with_reducible repeat (first | refine blk_drewN ?_ _ | refine blk_drew ?_ | refine blk_alloc ?_ _)); refine blk_far ?_ NB263_275.out _; (with_reducible repeat (first | refine blk_drewN ?_ _ | refine blk_drew ?_ | refine blk_alloc ?_ _)); exact BK263.out) hb); have n4_ := Aside0.mk (blk_below (g := gb269) (o := .cells #[.int .u64 t264, .int .u64 t265, .int .u64 t266, .int .u64 t267] 27 (0, 0)) (by (with_reducible repeat (first | refine blk_drewN ?_ _ | refine blk_drew ?_ | refine blk_alloc ?_ _)); refine blk_far ?_ NB269_275.out _; (with_reducible repeat (first | refine blk_drewN ?_ _ | refine blk_drew ?_ | refine blk_alloc ?_ _)); refine blk_far ?_ NB269_275.out _; (with_reducible repeat (first | refine blk_drewN ?_ _ | refine blk_drew ?_ | refine blk_alloc ?_ _)); refine blk_far ?_ NB269_275.out _; (with_reducible repeat (first | refine blk_drewN ?_ _ | refine blk_drew ?_ | refine blk_alloc ?_ _)); refine blk_far ?_ NB269_275.out _; (with_reducible repeat (first | refine blk_drewN ?_ _ | refine blk_drew ?_ | refine blk_alloc ?_ _)); exact BK269.out) hb); have n5_ := Aside0.mk (blk_below (g := gb275) (o := .cells #[.int .u64 t270, .int .u64 t271, .int .u64 t272, .int .u64 t273] 27 (0, 0)) (by (with_reducible repeat (first | refine blk_drewN ?_ _ | refine blk_drew ?_ | refine blk_alloc ?_ _)); refine blk_put (cs := #[.int .u64 t270, .int .u64 t271, .int .u64 t272, .int .u64 0]) ?_ 3 _ rfl; (with_reducible repeat (first | refine blk_drewN ?_ _ | refine blk_drew ?_ | refine blk_alloc ?_ _)); refine blk_put (cs := #[.int .u64 t270, .int .u64 t271, .int .u64 0, .int .u64 0]) ?_ 2 _ rfl; (with_reducible repeat (first | refine blk_drewN ?_ _ | refine blk_drew ?_ | refine blk_alloc ?_ _)); refine blk_put (cs := #[.int .u64 t270, .int .u64 0, .int .u64 0, .int .u64 0]) ?_ 1 _ rfl; (with_reducible repeat (first | refine blk_drewN ?_ _ | refine blk_drew ?_ | refine blk_alloc ?_ _)); refine blk_put (cs := #[.int .u64 0, .int .u64 0, .int .u64 0, .int .u64 0]) ?_ 0 _ rfl; (with_reducible repeat (first | refine blk_drewN ?_ _ | refine blk_drew ?_ | refine blk_alloc ?_ _)); exact BK275.out) hb); have n6_ := Aside0.mk (below_step (by repeat (first | (with_reducible first | exact HB.out | apply below_alloc | apply pw_below_drewN | apply below_drew1 | refine below_set ?_ GE253.out | refine below_set ?_ GE254.out | refine below_set ?_ GE259.out | refine below_set ?_ GE263.out | refine below_set ?_ GE269.out | refine below_set ?_ GE275.out) | exact HB.out)) hb); clear BK253; clear BK254; clear BK259; clear BK263; clear BK269; clear BK275; clear HB; have BK253 := n0_; have BK254 := n1_; have BK259 := n2_; have BK263 := n3_; have BK269 := n4_; have BK275 := n5_; have HB := n6_; clear n0_ n1_ n2_ n3_ n4_ n5_ n6_; (try clear hb); (try clear hb2); (try clear hk); (try clear hi)) | ((with_reducible refine gate_dst (N := 18) rfl ?_); refine box_event ?hg (N := 18) ?hd (cs := #[.int .u64 0, .int .u64 0, .int .u64 0, .int .u64 0]) (t := 27) ?hr ?_; (case hd => rfl); (case hg => rfl); (case hr => first | (go_simp; done) | (go_simp; rfl)); intro gb281 hg w49 hbox hb; have n0_ := Aside0.mk (blk_below (g := gb253) (o := .cells #[.int .u64 a0_0, .int .u64 a0_1] 25 (0, 0)) (by (with_reducible repeat (first | refine blk_drewN ?_ _ | refine blk_drew ?_ | refine blk_alloc ?_ _)); exact BK253.out) hb); have n1_ := Aside0.mk (blk_below (g := gb254) (o := .cells #[.int .u64 a1_0, .int .u64 a1_1, .int .u64 a1_2, .int .u64 a1_3] 27 (0, 0)) (by (with_reducible repeat (first | refine blk_drewN ?_ _ | refine blk_drew ?_ | refine blk_alloc ?_ _)); exact BK254.out) hb); have n2_ := Aside0.mk (blk_below (g := gb259) (o := .cells #[.int .u64 t256, .int .u64 t257] 25 (0, 0)) (by (with_reducible repeat (first | refine blk_drewN ?_ _ | refine blk_drew ?_ | refine blk_alloc ?_ _)); exact BK259.out) hb); have n3_ := Aside0.mk (blk_below (g := gb263) (o := .cells #[.int .u64 t260, .int .u64 t261] 25 (0, 0)) (by (with_reducible repeat (first | refine blk_drewN ?_ _ | refine blk_drew ?_ | refine blk_alloc ?_ _)); exact BK263.out) hb); have n4_ := Aside0.mk (blk_below (g := gb269) (o := .cells #[.int .u64 t264, .int .u64 t265, .int .u64 t266, .int .u64 t267] 27 (0, 0)) (by (with_reducible repeat (first | refine blk_drewN ?_ _ | refine blk_drew ?_ | refine blk_alloc ?_ _)); exact BK269.out) hb); have n5_ := Aside0.mk (blk_below (g := gb275) (o := .cells #[.int .u64 t270, .int .u64 t271, .int .u64 t272, .int .u64 t273] 27 (0, 0)) (by (with_reducible repeat (first | refine blk_drewN ?_ _ | refine blk_drew ?_ | refine blk_alloc ?_ _)); exact BK275.out) hb); have n6_ := Aside0.mk (below_step (by repeat (first | (with_reducible first | exact HB.out | apply below_alloc | apply pw_below_drewN | apply below_drew1 | refine below_set ?_ GE253.out | refine below_set ?_ GE254.out | refine below_set ?_ GE259.out | refine below_set ?_ GE263.out | refine below_set ?_ GE269.out | refine below_set ?_ GE275.out) | exact HB.out)) hb); have n7_ := Aside0.mk (hbox); have n8_ := Aside0.mk ((by rw [hg]; exact (below_size (by repeat (first | (with_reducible first | exact HB.out | apply below_alloc | apply pw_below_drewN | apply below_drew1 | refine below_set ?_ GE253.out | refine below_set ?_ GE254.out | refine below_set ?_ GE259.out | refine below_set ?_ GE263.out | refine below_set ?_ GE269.out | refine below_set ?_ GE275.out) | exact HB.out))) : w.heap.size ≤ gb281)); have n9_ := Aside0.mk ((by rw [hg]; exact (below_size (by repeat (first | (with_reducible first | exact HB.out | apply below_alloc | apply pw_below_drewN | apply below_drew1 | refine below_set ?_ GE253.out | refine below_set ?_ GE254.out | refine below_set ?_ GE259.out | refine below_set ?_ GE263.out | refine below_set ?_ GE269.out | refine below_set ?_ GE275.out) | exact HB.out))) : w.heap.size ≤ gb281)); have n10_ := Aside0.mk ((by rw [hg]; exact Nat.ne_of_lt (blk_lt (g := gb253) (o := .cells #[.int .u64 a0_0, .int .u64 a0_1] 25 (0, 0)) (by (with_reducible repeat (first | refine blk_drewN ?_ _ | refine blk_drew ?_ | refine blk_alloc ?_ _)); exact BK253.out)) : gb253 ≠ gb281)); have n11_ := Aside0.mk ((by rw [hg]; exact Nat.ne_of_gt (blk_lt (g := gb253) (o := .cells #[.int .u64 a0_0, .int .u64 a0_1] 25 (0, 0)) (by (with_reducible repeat (first | refine blk_drewN ?_ _ | refine blk_drew ?_ | refine blk_alloc ?_ _)); exact BK253.out)) : gb281 ≠ gb253)); have n12_ := Aside0.mk ((by rw [hg]; exact Nat.ne_of_lt (blk_lt (g := gb254) (o := .cells #[.int .u64 a1_0, .int .u64 a1_1, .int .u64 a1_2, .int .u64 a1_3] 27 (0, 0)) (by (with_reducible repeat (first | refine blk_drewN ?_ _ | refine blk_drew ?_ | refine blk_alloc ?_ _)); exact BK254.out)) : gb254 ≠ gb281)); have n13_ := Aside0.mk ((by rw [hg]; exact Nat.ne_of_gt (blk_lt (g := gb254) (o := .cells #[.int .u64 a1_0, .int .u64 a1_1, .int .u64 a1_2, .int .u64 a1_3] 27 (0, 0)) (by (with_reducible repeat (first | refine blk_drewN ?_ _ | refine blk_drew ?_ | refine blk_alloc ?_ _)); exact BK254.out)) : gb281 ≠ gb254)); have n14_ := Aside0.mk ((by rw [hg]; exact Nat.ne_of_lt (blk_lt (g := gb259) (o := .cells #[.int .u64 t256, .int .u64 t257] 25 (0, 0)) (by (with_reducible repeat (first | refine blk_drewN ?_ _ | refine blk_drew ?_ | refine blk_alloc ?_ _)); exact BK259.out)) : gb259 ≠ gb281)); have n15_ := Aside0.mk ((by rw [hg]; exact Nat.ne_of_gt (blk_lt (g := gb259) (o := .cells #[.int .u64 t256, .int .u64 t257] 25 (0, 0)) (by (with_reducible repeat (first | refine blk_drewN ?_ _ | refine blk_drew ?_ | refine blk_alloc ?_ _)); exact BK259.out)) : gb281 ≠ gb259)); have n16_ := Aside0.mk ((by rw [hg]; exact Nat.ne_of_lt (blk_lt (g := gb263) (o := .cells #[.int .u64 t260, .int .u64 t261] 25 (0, 0)) (by (with_reducible repeat (first | refine blk_drewN ?_ _ | refine blk_drew ?_ | refine blk_alloc ?_ _)); exact BK263.out)) : gb263 ≠ gb281)); have n17_ := Aside0.mk ((by rw [hg]; exact Nat.ne_of_gt (blk_lt (g := gb263) (o := .cells #[.int .u64 t260, .int .u64 t261] 25 (0, 0)) (by (with_reducible repeat (first | refine blk_drewN ?_ _ | refine blk_drew ?_ | refine blk_alloc ?_ _)); exact BK263.out)) : gb281 ≠ gb263)); have n18_ := Aside0.mk ((by rw [hg]; exact Nat.ne_of_lt (blk_lt (g := gb269) (o := .cells #[.int .u64 t264, .int .u64 t265, .int .u64 t266, .int .u64 t267] 27 (0, 0)) (by (with_reducible repeat (first | refine blk_drewN ?_ _ | refine blk_drew ?_ | refine blk_alloc ?_ _)); exact BK269.out)) : gb269 ≠ gb281)); have n19_ := Aside0.mk ((by rw [hg]; exact Nat.ne_of_gt (blk_lt (g := gb269) (o := .cells #[.int .u64 t264, .int .u64 t265, .int .u64 t266, .int .u64 t267] 27 (0, 0)) (by (with_reducible repeat (first | refine blk_drewN ?_ _ | refine blk_drew ?_ | refine blk_alloc ?_ _)); exact BK269.out)) : gb281 ≠ gb269)); have n20_ := Aside0.mk ((by rw [hg]; exact Nat.ne_of_lt (blk_lt (g := gb275) (o := .cells #[.int .u64 t270, .int .u64 t271, .int .u64 t272, .int .u64 t273] 27 (0, 0)) (by (with_reducible repeat (first | refine blk_drewN ?_ _ | refine blk_drew ?_ | refine blk_alloc ?_ _)); exact BK275.out)) : gb275 ≠ gb281)); have n21_ := Aside0.mk ((by rw [hg]; exact Nat.ne_of_gt (blk_lt (g := gb275) (o := .cells #[.int .u64 t270, .int .u64 t271, .int .u64 t272, .int .u64 t273] 27 (0, 0)) (by (with_reducible repeat (first | refine blk_drewN ?_ _ | refine blk_drew ?_ | refine blk_alloc ?_ _)); exact BK275.out)) : gb281 ≠ gb275)); clear BK253; clear BK254; clear BK259; clear BK263; clear BK269; clear BK275; clear HB; have BK253 := n0_; have BK254 := n1_; have BK259 := n2_; have BK263 := n3_; have BK269 := n4_; have BK275 := n5_; have HB := n6_; have BK281 := n7_; have GW281 := n8_; have GE281 := n9_; have NB253_281 := n10_; have NB281_253 := n11_; have NB254_281 := n12_; have NB281_254 := n13_; have NB259_281 := n14_; have NB281_259 := n15_; have NB263_281 := n16_; have NB281_263 := n17_; have NB269_281 := n18_; have NB281_269 := n19_; have NB275_281 := n20_; have NB281_275 := n21_; clear n0_ n1_ n2_ n3_ n4_ n5_ n6_ n7_ n8_ n9_ n10_ n11_ n12_ n13_ n14_ n15_ n16_ n17_ n18_ n19_ n20_ n21_; clear hb hbox hg; have hnb50 := NB281_253.out; have hnc50 := NB253_281.out; have hnb51 := NB281_254.out; have hnc51 := NB254_281.out; have hnb52 := NB281_259.out; have hnc52 := NB259_281.out; have hnb53 := NB281_263.out; have hnc53 := NB263_281.out; have hnb54 := NB281_269.out; have hnc54 := NB269_281.out; have hnb55 := NB281_275.out; have hnc55 := NB275_281.out; have hcz56_0 : w49.cell? ⟨gb281, 0, none⟩ = some (.int .u64 0) := (blk_cell BK281.out 0).trans rfl; have hcz56_1 : w49.cell? ⟨gb281, 1, none⟩ = some (.int .u64 0) := (blk_cell BK281.out 1).trans rfl; have hcz56_2 : w49.cell? ⟨gb281, 2, none⟩ = some (.int .u64 0) := (blk_cell BK281.out 2).trans rfl; have hcz56_3 : w49.cell? ⟨gb281, 3, none⟩ = some (.int .u64 0) := (blk_cell BK281.out 3).trans rfl; have hfz56_0 := blk_frozen BK281.out 0; have hfz56_1 := blk_frozen BK281.out 1; have hfz56_2 := blk_frozen BK281.out 2; have hfz56_3 := blk_frozen BK281.out 3; have hcz57_0 : w49.cell? ⟨gb254, 0, none⟩ = some (.int .u64 a1_0) := (blk_cell BK254.out 0).trans rfl; have hcz57_1 : w49.cell? ⟨gb254, 1, none⟩ = some (.int .u64 a1_1) := (blk_cell BK254.out 1).trans rfl; have hcz57_2 : w49.cell? ⟨gb254, 2, none⟩ = some (.int .u64 a1_2) := (blk_cell BK254.out 2).trans rfl; have hcz57_3 : w49.cell? ⟨gb254, 3, none⟩ = some (.int .u64 a1_3) := (blk_cell BK254.out 3).trans rfl; have hfz57_0 := blk_frozen BK254.out 0; have hfz57_1 := blk_frozen BK254.out 1; have hfz57_2 := blk_frozen BK254.out 2; have hfz57_3 := blk_frozen BK254.out 3) | ((with_reducible refine gate_callee (f := 15) rfl ?_); refine goesL_ (some 57) rfl rfl Try.func15 (by kernel_rfl) rfl #[.agg #[.int .u64 a1_0, .int .u64 a1_1, .int .u64 a1_2, .int .u64 a1_3], .int .u64 a2] rfl (by (try simp only [List.map_toArray, List.map_cons, List.map_nil]); first | done | rfl | (simp only [List.length_drop, List.length_take]; rfl)) ?_; (with_reducible refine (wigwagref19_Read.calls k a1_0 a1_1 a1_2 a1_3 a2 t282 t283 t284 t285 t286 _ A11.out).mono ?_); rintro e w58 ⟨rfl, hb⟩; refine ⟨_, rfl, ?_⟩; have n0_ := Aside0.mk (blk_below (g := gb253) (o := .cells #[.int .u64 a0_0, .int .u64 a0_1] 25 (0, 0)) (by (with_reducible repeat (first | refine blk_drewN ?_ _ | refine blk_drew ?_ | refine blk_alloc ?_ _)); refine blk_far ?_ NB253_281.out _; (with_reducible repeat (first | refine blk_drewN ?_ _ | refine blk_drew ?_ | refine blk_alloc ?_ _)); refine blk_far ?_ NB253_281.out _; (with_reducible repeat (first | refine blk_drewN ?_ _ | refine blk_drew ?_ | refine blk_alloc ?_ _)); refine blk_far ?_ NB253_281.out _; (with_reducible repeat (first | refine blk_drewN ?_ _ | refine blk_drew ?_ | refine blk_alloc ?_ _)); refine blk_far ?_ NB253_281.out _; (with_reducible repeat (first | refine blk_drewN ?_ _ | refine blk_drew ?_ | refine blk_alloc ?_ _)); exact BK253.out) hb); have n1_ := Aside0.mk (blk_below (g := gb254) (o := .cells #[.int .u64 a1_0, .int .u64 a1_1, .int .u64 a1_2, .int .u64 a1_3] 27 (0, 0)) (by (with_reducible repeat (first | refine blk_drewN ?_ _ | refine blk_drew ?_ | refine blk_alloc ?_ _)); refine blk_far ?_ NB254_281.out _; (with_reducible repeat (first | refine blk_drewN ?_ _ | refine blk_drew ?_ | refine blk_alloc ?_ _)); refine blk_far ?_ NB254_281.out _; (with_reducible repeat (first | refine blk_drewN ?_ _ | refine blk_drew ?_ | refine blk_alloc ?_ _)); refine blk_far ?_ NB254_281.out _; (with_reducible repeat (first | refine blk_drewN ?_ _ | refine blk_drew ?_ | refine blk_alloc ?_ _)); refine blk_far ?_ NB254_281.out _; (with_reducible repeat (first | refine blk_drewN ?_ _ | refine blk_drew ?_ | refine blk_alloc ?_ _)); exact BK254.out) hb); have n2_ := Aside0.mk (blk_below (g := gb259) (o := .cells #[.int .u64 t256, .int .u64 t257] 25 (0, 0)) (by (with_reducible repeat (first | refine blk_drewN ?_ _ | refine blk_drew ?_ | refine blk_alloc ?_ _)); refine blk_far ?_ NB259_281.out _; (with_reducible repeat (first | refine blk_drewN ?_ _ | refine blk_drew ?_ | refine blk_alloc ?_ _)); refine blk_far ?_ NB259_281.out _; (with_reducible repeat (first | refine blk_drewN ?_ _ | refine blk_drew ?_ | refine blk_alloc ?_ _)); refine blk_far ?_ NB259_281.out _; (with_reducible repeat (first | refine blk_drewN ?_ _ | refine blk_drew ?_ | refine blk_alloc ?_ _)); refine blk_far ?_ NB259_281.out _; (with_reducible repeat (first | refine blk_drewN ?_ _ | refine blk_drew ?_ | refine blk_alloc ?_ _)); exact BK259.out) hb); have n3_ := Aside0.mk (blk_below (g := gb263) (o := .cells #[.int .u64 t260, .int .u64 t261] 25 (0, 0)) (by (with_reducible repeat (first | refine blk_drewN ?_ _ | refine blk_drew ?_ | refine blk_alloc ?_ _)); refine blk_far ?_ NB263_281.out _; (with_reducible repeat (first | refine blk_drewN ?_ _ | refine blk_drew ?_ | refine blk_alloc ?_ _)); refine blk_far ?_ NB263_281.out _; (with_reducible repeat (first | refine blk_drewN ?_ _ | refine blk_drew ?_ | refine blk_alloc ?_ _)); refine blk_far ?_ NB263_281.out _; (with_reducible repeat (first | refine blk_drewN ?_ _ | refine blk_drew ?_ | refine blk_alloc ?_ _)); refine blk_far ?_ NB263_281.out _; (with_reducible repeat (first | refine blk_drewN ?_ _ | refine blk_drew ?_ | refine blk_alloc ?_ _)); exact BK263.out) hb); have n4_ := Aside0.mk (blk_below (g := gb269) (o := .cells #[.int .u64 t264, .int .u64 t265, .int .u64 t266, .int .u64 t267] 27 (0, 0)) (by (with_reducible repeat (first | refine blk_drewN ?_ _ | refine blk_drew ?_ | refine blk_alloc ?_ _)); refine blk_far ?_ NB269_281.out _; (with_reducible repeat (first | refine blk_drewN ?_ _ | refine blk_drew ?_ | refine blk_alloc ?_ _)); refine blk_far ?_ NB269_281.out _; (with_reducible repeat (first | refine blk_drewN ?_ _ | refine blk_drew ?_ | refine blk_alloc ?_ _)); refine blk_far ?_ NB269_281.out _; (with_reducible repeat (first | refine blk_drewN ?_ _ | refine blk_drew ?_ | refine blk_alloc ?_ _)); refine blk_far ?_ NB269_281.out _; (with_reducible repeat (first | refine blk_drewN ?_ _ | refine blk_drew ?_ | refine blk_alloc ?_ _)); exact BK269.out) hb); have n5_ := Aside0.mk (blk_below (g := gb275) (o := .cells #[.int .u64 t270, .int .u64 t271, .int .u64 t272, .int .u64 t273] 27 (0, 0)) (by (with_reducible repeat (first | refine blk_drewN ?_ _ | refine blk_drew ?_ | refine blk_alloc ?_ _)); refine blk_far ?_ NB275_281.out _; (with_reducible repeat (first | refine blk_drewN ?_ _ | refine blk_drew ?_ | refine blk_alloc ?_ _)); refine blk_far ?_ NB275_281.out _; (with_reducible repeat (first | refine blk_drewN ?_ _ | refine blk_drew ?_ | refine blk_alloc ?_ _)); refine blk_far ?_ NB275_281.out _; (with_reducible repeat (first | refine blk_drewN ?_ _ | refine blk_drew ?_ | refine blk_alloc ?_ _)); refine blk_far ?_ NB275_281.out _; (with_reducible repeat (first | refine blk_drewN ?_ _ | refine blk_drew ?_ | refine blk_alloc ?_ _)); exact BK275.out) hb); have n6_ := Aside0.mk (blk_below (g := gb281) (o := .cells #[.int .u64 t276, .int .u64 t277, .int .u64 t278, .int .u64 t279] 27 (0, 0)) (by (with_reducible repeat (first | refine blk_drewN ?_ _ | refine blk_drew ?_ | refine blk_alloc ?_ _)); refine blk_put (cs := #[.int .u64 t276, .int .u64 t277, .int .u64 t278, .int .u64 0]) ?_ 3 _ rfl; (with_reducible repeat (first | refine blk_drewN ?_ _ | refine blk_drew ?_ | refine blk_alloc ?_ _)); refine blk_put (cs := #[.int .u64 t276, .int .u64 t277, .int .u64 0, .int .u64 0]) ?_ 2 _ rfl; (with_reducible repeat (first | refine blk_drewN ?_ _ | refine blk_drew ?_ | refine blk_alloc ?_ _)); refine blk_put (cs := #[.int .u64 t276, .int .u64 0, .int .u64 0, .int .u64 0]) ?_ 1 _ rfl; (with_reducible repeat (first | refine blk_drewN ?_ _ | refine blk_drew ?_ | refine blk_alloc ?_ _)); refine blk_put (cs := #[.int .u64 0, .int .u64 0, .int .u64 0, .int .u64 0]) ?_ 0 _ rfl; (with_reducible repeat (first | refine blk_drewN ?_ _ | refine blk_drew ?_ | refine blk_alloc ?_ _)); exact BK281.out) hb); have n7_ := Aside0.mk (below_step (by repeat (first | (with_reducible first | exact HB.out | apply below_alloc | apply pw_below_drewN | apply below_drew1 | refine below_set ?_ GE253.out | refine below_set ?_ GE254.out | refine below_set ?_ GE259.out | refine below_set ?_ GE263.out | refine below_set ?_ GE269.out | refine below_set ?_ GE275.out | refine below_set ?_ GE281.out) | exact HB.out)) hb); clear BK253; clear BK254; clear BK259; clear BK263; clear BK269; clear BK275; clear BK281; clear HB; have BK253 := n0_; have BK254 := n1_; have BK259 := n2_; have BK263 := n3_; have BK269 := n4_; have BK275 := n5_; have BK281 := n6_; have HB := n7_; clear n0_ n1_ n2_ n3_ n4_ n5_ n6_ n7_; (try clear hb); (try clear hb2); (try clear hk); (try clear hi)) | ((with_reducible refine gate_dst (N := 20) rfl ?_); refine box_event ?hg (N := 20) ?hd (cs := #[.int .u64 0, .int .u64 0, .int .u64 0, .int .u64 0]) (t := 27) ?hr ?_; (case hd => rfl); (case hg => rfl); (case hr => first | (go_simp; done) | (go_simp; rfl)); intro gb287 hg w59 hbox hb; have n0_ := Aside0.mk (blk_below (g := gb253) (o := .cells #[.int .u64 a0_0, .int .u64 a0_1] 25 (0, 0)) (by (with_reducible repeat (first | refine blk_drewN ?_ _ | refine blk_drew ?_ | refine blk_alloc ?_ _)); exact BK253.out) hb); have n1_ := Aside0.mk (blk_below (g := gb254) (o := .cells #[.int .u64 a1_0, .int .u64 a1_1, .int .u64 a1_2, .int .u64 a1_3] 27 (0, 0)) (by (with_reducible repeat (first | refine blk_drewN ?_ _ | refine blk_drew ?_ | refine blk_alloc ?_ _)); exact BK254.out) hb); have n2_ := Aside0.mk (blk_below (g := gb259) (o := .cells #[.int .u64 t256, .int .u64 t257] 25 (0, 0)) (by (with_reducible repeat (first | refine blk_drewN ?_ _ | refine blk_drew ?_ | refine blk_alloc ?_ _)); exact BK259.out) hb); have n3_ := Aside0.mk (blk_below (g := gb263) (o := .cells #[.int .u64 t260, .int .u64 t261] 25 (0, 0)) (by (with_reducible repeat (first | refine blk_drewN ?_ _ | refine blk_drew ?_ | refine blk_alloc ?_ _)); exact BK263.out) hb); have n4_ := Aside0.mk (blk_below (g := gb269) (o := .cells #[.int .u64 t264, .int .u64 t265, .int .u64 t266, .int .u64 t267] 27 (0, 0)) (by (with_reducible repeat (first | refine blk_drewN ?_ _ | refine blk_drew ?_ | refine blk_alloc ?_ _)); exact BK269.out) hb); have n5_ := Aside0.mk (blk_below (g := gb275) (o := .cells #[.int .u64 t270, .int .u64 t271, .int .u64 t272, .int .u64 t273] 27 (0, 0)) (by (with_reducible repeat (first | refine blk_drewN ?_ _ | refine blk_drew ?_ | refine blk_alloc ?_ _)); exact BK275.out) hb); have n6_ := Aside0.mk (blk_below (g := gb281) (o := .cells #[.int .u64 t276, .int .u64 t277, .int .u64 t278, .int .u64 t279] 27 (0, 0)) (by (with_reducible repeat (first | refine blk_drewN ?_ _ | refine blk_drew ?_ | refine blk_alloc ?_ _)); exact BK281.out) hb); have n7_ := Aside0.mk (below_step (by repeat (first | (with_reducible first | exact HB.out | apply below_alloc | apply pw_below_drewN | apply below_drew1 | refine below_set ?_ GE253.out | refine below_set ?_ GE254.out | refine below_set ?_ GE259.out | refine below_set ?_ GE263.out | refine below_set ?_ GE269.out | refine below_set ?_ GE275.out | refine below_set ?_ GE281.out) | exact HB.out)) hb); have n8_ := Aside0.mk (hbox); have n9_ := Aside0.mk ((by rw [hg]; exact (below_size (by repeat (first | (with_reducible first | exact HB.out | apply below_alloc | apply pw_below_drewN | apply below_drew1 | refine below_set ?_ GE253.out | refine below_set ?_ GE254.out | refine below_set ?_ GE259.out | refine below_set ?_ GE263.out | refine below_set ?_ GE269.out | refine below_set ?_ GE275.out | refine below_set ?_ GE281.out) | exact HB.out))) : w.heap.size ≤ gb287)); have n10_ := Aside0.mk ((by rw [hg]; exact (below_size (by repeat (first | (with_reducible first | exact HB.out | apply below_alloc | apply pw_below_drewN | apply below_drew1 | refine below_set ?_ GE253.out | refine below_set ?_ GE254.out | refine below_set ?_ GE259.out | refine below_set ?_ GE263.out | refine below_set ?_ GE269.out | refine below_set ?_ GE275.out | refine below_set ?_ GE281.out) | exact HB.out))) : w.heap.size ≤ gb287)); have n11_ := Aside0.mk ((by rw [hg]; exact Nat.ne_of_lt (blk_lt (g := gb253) (o := .cells #[.int .u64 a0_0, .int .u64 a0_1] 25 (0, 0)) (by (with_reducible repeat (first | refine blk_drewN ?_ _ | refine blk_drew ?_ | refine blk_alloc ?_ _)); exact BK253.out)) : gb253 ≠ gb287)); have n12_ := Aside0.mk ((by rw [hg]; exact Nat.ne_of_gt (blk_lt (g := gb253) (o := .cells #[.int .u64 a0_0, .int .u64 a0_1] 25 (0, 0)) (by (with_reducible repeat (first | refine blk_drewN ?_ _ | refine blk_drew ?_ | refine blk_alloc ?_ _)); exact BK253.out)) : gb287 ≠ gb253)); have n13_ := Aside0.mk ((by rw [hg]; exact Nat.ne_of_lt (blk_lt (g := gb254) (o := .cells #[.int .u64 a1_0, .int .u64 a1_1, .int .u64 a1_2, .int .u64 a1_3] 27 (0, 0)) (by (with_reducible repeat (first | refine blk_drewN ?_ _ | refine blk_drew ?_ | refine blk_alloc ?_ _)); exact BK254.out)) : gb254 ≠ gb287)); have n14_ := Aside0.mk ((by rw [hg]; exact Nat.ne_of_gt (blk_lt (g := gb254) (o := .cells #[.int .u64 a1_0, .int .u64 a1_1, .int .u64 a1_2, .int .u64 a1_3] 27 (0, 0)) (by (with_reducible repeat (first | refine blk_drewN ?_ _ | refine blk_drew ?_ | refine blk_alloc ?_ _)); exact BK254.out)) : gb287 ≠ gb254)); have n15_ := Aside0.mk ((by rw [hg]; exact Nat.ne_of_lt (blk_lt (g := gb259) (o := .cells #[.int .u64 t256, .int .u64 t257] 25 (0, 0)) (by (with_reducible repeat (first | refine blk_drewN ?_ _ | refine blk_drew ?_ | refine blk_alloc ?_ _)); exact BK259.out)) : gb259 ≠ gb287)); have n16_ := Aside0.mk ((by rw [hg]; exact Nat.ne_of_gt (blk_lt (g := gb259) (o := .cells #[.int .u64 t256, .int .u64 t257] 25 (0, 0)) (by (with_reducible repeat (first | refine blk_drewN ?_ _ | refine blk_drew ?_ | refine blk_alloc ?_ _)); exact BK259.out)) : gb287 ≠ gb259)); have n17_ := Aside0.mk ((by rw [hg]; exact Nat.ne_of_lt (blk_lt (g := gb263) (o := .cells #[.int .u64 t260, .int .u64 t261] 25 (0, 0)) (by (with_reducible repeat (first | refine blk_drewN ?_ _ | refine blk_drew ?_ | refine blk_alloc ?_ _)); exact BK263.out)) : gb263 ≠ gb287)); have n18_ := Aside0.mk ((by rw [hg]; exact Nat.ne_of_gt (blk_lt (g := gb263) (o := .cells #[.int .u64 t260, .int .u64 t261] 25 (0, 0)) (by (with_reducible repeat (first | refine blk_drewN ?_ _ | refine blk_drew ?_ | refine blk_alloc ?_ _)); exact BK263.out)) : gb287 ≠ gb263)); have n19_ := Aside0.mk ((by rw [hg]; exact Nat.ne_of_lt (blk_lt (g := gb269) (o := .cells #[.int .u64 t264, .int .u64 t265, .int .u64 t266, .int .u64 t267] 27 (0, 0)) (by (with_reducible repeat (first | refine blk_drewN ?_ _ | refine blk_drew ?_ | refine blk_alloc ?_ _)); exact BK269.out)) : gb269 ≠ gb287)); have n20_ := Aside0.mk ((by rw [hg]; exact Nat.ne_of_gt (blk_lt (g := gb269) (o := .cells #[.int .u64 t264, .int .u64 t265, .int .u64 t266, .int .u64 t267] 27 (0, 0)) (by (with_reducible repeat (first | refine blk_drewN ?_ _ | refine blk_drew ?_ | refine blk_alloc ?_ _)); exact BK269.out)) : gb287 ≠ gb269)); have n21_ := Aside0.mk ((by rw [hg]; exact Nat.ne_of_lt (blk_lt (g := gb275) (o := .cells #[.int .u64 t270, .int .u64 t271, .int .u64 t272, .int .u64 t273] 27 (0, 0)) (by (with_reducible repeat (first | refine blk_drewN ?_ _ | refine blk_drew ?_ | refine blk_alloc ?_ _)); exact BK275.out)) : gb275 ≠ gb287)); have n22_ := Aside0.mk ((by rw [hg]; exact Nat.ne_of_gt (blk_lt (g := gb275) (o := .cells #[.int .u64 t270, .int .u64 t271, .int .u64 t272, .int .u64 t273] 27 (0, 0)) (by (with_reducible repeat (first | refine blk_drewN ?_ _ | refine blk_drew ?_ | refine blk_alloc ?_ _)); exact BK275.out)) : gb287 ≠ gb275)); have n23_ := Aside0.mk ((by rw [hg]; exact Nat.ne_of_lt (blk_lt (g := gb281) (o := .cells #[.int .u64 t276, .int .u64 t277, .int .u64 t278, .int .u64 t279] 27 (0, 0)) (by (with_reducible repeat (first | refine blk_drewN ?_ _ | refine blk_drew ?_ | refine blk_alloc ?_ _)); exact BK281.out)) : gb281 ≠ gb287)); have n24_ := Aside0.mk ((by rw [hg]; exact Nat.ne_of_gt (blk_lt (g := gb281) (o := .cells #[.int .u64 t276, .int .u64 t277, .int .u64 t278, .int .u64 t279] 27 (0, 0)) (by (with_reducible repeat (first | refine blk_drewN ?_ _ | refine blk_drew ?_ | refine blk_alloc ?_ _)); exact BK281.out)) : gb287 ≠ gb281)); clear BK253; clear BK254; clear BK259; clear BK263; clear BK269; clear BK275; clear BK281; clear HB; have BK253 := n0_; have BK254 := n1_; have BK259 := n2_; have BK263 := n3_; have BK269 := n4_; have BK275 := n5_; have BK281 := n6_; have HB := n7_; have BK287 := n8_; have GW287 := n9_; have GE287 := n10_; have NB253_287 := n11_; have NB287_253 := n12_; have NB254_287 := n13_; have NB287_254 := n14_; have NB259_287 := n15_; have NB287_259 := n16_; have NB263_287 := n17_; have NB287_263 := n18_; have NB269_287 := n19_; have NB287_269 := n20_; have NB275_287 := n21_; have NB287_275 := n22_; have NB281_287 := n23_; have NB287_281 := n24_; clear n0_ n1_ n2_ n3_ n4_ n5_ n6_ n7_ n8_ n9_ n10_ n11_ n12_ n13_ n14_ n15_ n16_ n17_ n18_ n19_ n20_ n21_ n22_ n23_ n24_; clear hb hbox hg; have hnb60 := NB287_253.out; have hnc60 := NB253_287.out; have hnb61 := NB287_254.out; have hnc61 := NB254_287.out; have hnb62 := NB287_259.out; have hnc62 := NB259_287.out; have hnb63 := NB287_263.out; have hnc63 := NB263_287.out; have hnb64 := NB287_269.out; have hnc64 := NB269_287.out; have hnb65 := NB287_275.out; have hnc65 := NB275_287.out; have hnb66 := NB287_281.out; have hnc66 := NB281_287.out; have hcz67_0 : w59.cell? ⟨gb287, 0, none⟩ = some (.int .u64 0) := (blk_cell BK287.out 0).trans rfl; have hcz67_1 : w59.cell? ⟨gb287, 1, none⟩ = some (.int .u64 0) := (blk_cell BK287.out 1).trans rfl; have hcz67_2 : w59.cell? ⟨gb287, 2, none⟩ = some (.int .u64 0) := (blk_cell BK287.out 2).trans rfl; have hcz67_3 : w59.cell? ⟨gb287, 3, none⟩ = some (.int .u64 0) := (blk_cell BK287.out 3).trans rfl; have hfz67_0 := blk_frozen BK287.out 0; have hfz67_1 := blk_frozen BK287.out 1; have hfz67_2 := blk_frozen BK287.out 2; have hfz67_3 := blk_frozen BK287.out 3))
  (try simp only [Act.put, List.setIfInBounds_toArray, List.set_cons_zero, List.set_cons_succ])
  go_cut [22] (fun v22 wc => ∃ (kq : Nat) (x22_11 : Bool), v22 = .bool x22_11 ∧ Aside0 (wigwaglaw19_CreditTells.j0 kq a2 a3 t255 t268 t274 t280 t286 x22_11 t264 t265 t266 t267 t270 t271 t272 t273 t276 t277 t278 t279 t282 t283 t284 t285 = some r) ∧ Aside0 (kq ≤ k) ∧ Aside0 (wc.heap[gb253]? = some (.cells #[.int .u64 a0_0, .int .u64 a0_1] 25 (0, 0))) ∧ Aside0 (wc.heap[gb254]? = some (.cells #[.int .u64 a1_0, .int .u64 a1_1, .int .u64 a1_2, .int .u64 a1_3] 27 (0, 0))) ∧ Aside0 (wc.heap[gb259]? = some (.cells #[.int .u64 t256, .int .u64 t257] 25 (0, 0))) ∧ Aside0 (wc.heap[gb263]? = some (.cells #[.int .u64 t260, .int .u64 t261] 25 (0, 0))) ∧ Aside0 (wc.heap[gb269]? = some (.cells #[.int .u64 t264, .int .u64 t265, .int .u64 t266, .int .u64 t267] 27 (0, 0))) ∧ Aside0 (wc.heap[gb275]? = some (.cells #[.int .u64 t270, .int .u64 t271, .int .u64 t272, .int .u64 t273] 27 (0, 0))) ∧ Aside0 (wc.heap[gb281]? = some (.cells #[.int .u64 t276, .int .u64 t277, .int .u64 t278, .int .u64 t279] 27 (0, 0))) ∧ Aside0 (wc.heap[gb287]? = some (.cells #[.int .u64 t282, .int .u64 t283, .int .u64 t284, .int .u64 t285] 27 (0, 0))) ∧ Aside0 (Below w.heap.size w wc))
  case first =>
    have H := HC12.out
    clear HC12
    replace H := Option.bind_eq_some_iff.mp H
    obtain ⟨t288, A680, H⟩ := H
    replace H : ((wigwagref19_Left.f a0_0 a0_1).bind fun t289 => (if t288 = t289 then (if (t256 == t260 && (t257 == t261)) = true then (if (t258 == t262) = true then ((credit_Raise.f a0_0 a0_1 a3).bind fun bt290 => ((wigwagref19_Raise.f a0_0 a0_1 a3).bind fun bt292 => (wigwaglaw19_CreditTells.j0 k a2 a3 t255 t268 t274 t280 t286 (bt290.1 == bt292.1 && (bt290.2 == bt292.2)) t264 t265 t266 t267 t270 t271 t272 t273 t276 t277 t278 t279 t282 t283 t284 t285))) else (wigwaglaw19_CreditTells.j0 k a2 a3 t255 t268 t274 t280 t286 false t264 t265 t266 t267 t270 t271 t272 t273 t276 t277 t278 t279 t282 t283 t284 t285)) else (wigwaglaw19_CreditTells.j0 k a2 a3 t255 t268 t274 t280 t286 false t264 t265 t266 t267 t270 t271 t272 t273 t276 t277 t278 t279 t282 t283 t284 t285)) else (wigwaglaw19_CreditTells.j0 k a2 a3 t255 t268 t274 t280 t286 false t264 t265 t266 t267 t270 t271 t272 t273 t276 t277 t278 t279 t282 t283 t284 t285))) = some r := H
    have A68 := Aside0.mk A680
    clear A680
    replace H := Option.bind_eq_some_iff.mp H
    obtain ⟨t289, A690, H⟩ := H
    replace H : (if t288 = t289 then (if (t256 == t260 && (t257 == t261)) = true then (if (t258 == t262) = true then ((credit_Raise.f a0_0 a0_1 a3).bind fun bt290 => ((wigwagref19_Raise.f a0_0 a0_1 a3).bind fun bt292 => (wigwaglaw19_CreditTells.j0 k a2 a3 t255 t268 t274 t280 t286 (bt290.1 == bt292.1 && (bt290.2 == bt292.2)) t264 t265 t266 t267 t270 t271 t272 t273 t276 t277 t278 t279 t282 t283 t284 t285))) else (wigwaglaw19_CreditTells.j0 k a2 a3 t255 t268 t274 t280 t286 false t264 t265 t266 t267 t270 t271 t272 t273 t276 t277 t278 t279 t282 t283 t284 t285)) else (wigwaglaw19_CreditTells.j0 k a2 a3 t255 t268 t274 t280 t286 false t264 t265 t266 t267 t270 t271 t272 t273 t276 t277 t278 t279 t282 t283 t284 t285)) else (wigwaglaw19_CreditTells.j0 k a2 a3 t255 t268 t274 t280 t286 false t264 t265 t266 t267 t270 t271 t272 t273 t276 t277 t278 t279 t282 t283 t284 t285)) = some r := H
    have A69 := Aside0.mk A690
    clear A690
    by_cases c70 : t288 = t289
    · rw [if_pos c70] at H
      have c70b0 : (t288 == t289) = true := beq_iff_eq.mpr c70
      have c70b1 : (t288 != t289) = false := bne_eq_false_iff_eq.mpr c70
      clear c70
      (first | rw [c70b0] | (simp only [i64_w, i32_w]; rw [c70b0]) | skip)
      by_cases c71 : (t256 == t260 && (t257 == t261)) = true
      · rw [if_pos c71] at H
        have c71b0 : (t256 == t260 && (t257 == t261)) = true := c71
        (try (have c71b1 : decide (t256 = t260 && (t257 == t261)) = true := by simpa using c71))
        (try (have c71b2 : (t256 == t260 && (t257 == t261)) = true := by simpa using c71))
        clear c71
        by_cases c72 : (t258 == t262) = true
        · rw [if_pos c72] at H
          have c72b0 : (t258 == t262) = true := c72
          (try (have c72b1 : decide (t258 = t262) = true := by simpa using c72))
          (try (have c72b2 : (t258 == t262) = true := by simpa using c72))
          clear c72
          replace H := Option.bind_eq_some_iff.mp H
          obtain ⟨⟨t290, t291⟩, A730, H⟩ := H
          replace H : ((wigwagref19_Raise.f a0_0 a0_1 a3).bind fun bt292 => (wigwaglaw19_CreditTells.j0 k a2 a3 t255 t268 t274 t280 t286 (t290 == bt292.1 && (t291 == bt292.2)) t264 t265 t266 t267 t270 t271 t272 t273 t276 t277 t278 t279 t282 t283 t284 t285)) = some r := H
          have A73 := Aside0.mk A730
          clear A730
          replace H := Option.bind_eq_some_iff.mp H
          obtain ⟨⟨t292, t293⟩, A740, H⟩ := H
          replace H : (wigwaglaw19_CreditTells.j0 k a2 a3 t255 t268 t274 t280 t286 (t290 == t292 && (t291 == t293)) t264 t265 t266 t267 t270 t271 t272 t273 t276 t277 t278 t279 t282 t283 t284 t285) = some r := H
          have A74 := Aside0.mk A740
          clear A740
          have H' := Aside0.mk H
          clear H
          try go_wp2
          have n0_ : Aside0 (((((w59.setCell ⟨gb287, 0, none⟩ (.int .u64 t282)).setCell ⟨gb287, 1, none⟩ (.int .u64 t283)).setCell ⟨gb287, 2, none⟩ (.int .u64 t284)).setCell ⟨gb287, 3, none⟩ (.int .u64 t285)).heap[gb253]? = some (.cells #[.int .u64 a0_0, .int .u64 a0_1] 25 (0, 0))) := ⟨by (with_reducible repeat (first | refine blk_drewN ?_ _ | refine blk_drew ?_ | refine blk_alloc ?_ _)); refine blk_far ?_ NB253_287.out _; (with_reducible repeat (first | refine blk_drewN ?_ _ | refine blk_drew ?_ | refine blk_alloc ?_ _)); refine blk_far ?_ NB253_287.out _; (with_reducible repeat (first | refine blk_drewN ?_ _ | refine blk_drew ?_ | refine blk_alloc ?_ _)); refine blk_far ?_ NB253_287.out _; (with_reducible repeat (first | refine blk_drewN ?_ _ | refine blk_drew ?_ | refine blk_alloc ?_ _)); refine blk_far ?_ NB253_287.out _; (with_reducible repeat (first | refine blk_drewN ?_ _ | refine blk_drew ?_ | refine blk_alloc ?_ _)); exact BK253.out⟩
          have n1_ : Aside0 (((((w59.setCell ⟨gb287, 0, none⟩ (.int .u64 t282)).setCell ⟨gb287, 1, none⟩ (.int .u64 t283)).setCell ⟨gb287, 2, none⟩ (.int .u64 t284)).setCell ⟨gb287, 3, none⟩ (.int .u64 t285)).heap[gb254]? = some (.cells #[.int .u64 a1_0, .int .u64 a1_1, .int .u64 a1_2, .int .u64 a1_3] 27 (0, 0))) := ⟨by (with_reducible repeat (first | refine blk_drewN ?_ _ | refine blk_drew ?_ | refine blk_alloc ?_ _)); refine blk_far ?_ NB254_287.out _; (with_reducible repeat (first | refine blk_drewN ?_ _ | refine blk_drew ?_ | refine blk_alloc ?_ _)); refine blk_far ?_ NB254_287.out _; (with_reducible repeat (first | refine blk_drewN ?_ _ | refine blk_drew ?_ | refine blk_alloc ?_ _)); refine blk_far ?_ NB254_287.out _; (with_reducible repeat (first | refine blk_drewN ?_ _ | refine blk_drew ?_ | refine blk_alloc ?_ _)); refine blk_far ?_ NB254_287.out _; (with_reducible repeat (first | refine blk_drewN ?_ _ | refine blk_drew ?_ | refine blk_alloc ?_ _)); exact BK254.out⟩
          have n2_ : Aside0 (((((w59.setCell ⟨gb287, 0, none⟩ (.int .u64 t282)).setCell ⟨gb287, 1, none⟩ (.int .u64 t283)).setCell ⟨gb287, 2, none⟩ (.int .u64 t284)).setCell ⟨gb287, 3, none⟩ (.int .u64 t285)).heap[gb259]? = some (.cells #[.int .u64 t256, .int .u64 t257] 25 (0, 0))) := ⟨by (with_reducible repeat (first | refine blk_drewN ?_ _ | refine blk_drew ?_ | refine blk_alloc ?_ _)); refine blk_far ?_ NB259_287.out _; (with_reducible repeat (first | refine blk_drewN ?_ _ | refine blk_drew ?_ | refine blk_alloc ?_ _)); refine blk_far ?_ NB259_287.out _; (with_reducible repeat (first | refine blk_drewN ?_ _ | refine blk_drew ?_ | refine blk_alloc ?_ _)); refine blk_far ?_ NB259_287.out _; (with_reducible repeat (first | refine blk_drewN ?_ _ | refine blk_drew ?_ | refine blk_alloc ?_ _)); refine blk_far ?_ NB259_287.out _; (with_reducible repeat (first | refine blk_drewN ?_ _ | refine blk_drew ?_ | refine blk_alloc ?_ _)); exact BK259.out⟩
          have n3_ : Aside0 (((((w59.setCell ⟨gb287, 0, none⟩ (.int .u64 t282)).setCell ⟨gb287, 1, none⟩ (.int .u64 t283)).setCell ⟨gb287, 2, none⟩ (.int .u64 t284)).setCell ⟨gb287, 3, none⟩ (.int .u64 t285)).heap[gb263]? = some (.cells #[.int .u64 t260, .int .u64 t261] 25 (0, 0))) := ⟨by (with_reducible repeat (first | refine blk_drewN ?_ _ | refine blk_drew ?_ | refine blk_alloc ?_ _)); refine blk_far ?_ NB263_287.out _; (with_reducible repeat (first | refine blk_drewN ?_ _ | refine blk_drew ?_ | refine blk_alloc ?_ _)); refine blk_far ?_ NB263_287.out _; (with_reducible repeat (first | refine blk_drewN ?_ _ | refine blk_drew ?_ | refine blk_alloc ?_ _)); refine blk_far ?_ NB263_287.out _; (with_reducible repeat (first | refine blk_drewN ?_ _ | refine blk_drew ?_ | refine blk_alloc ?_ _)); refine blk_far ?_ NB263_287.out _; (with_reducible repeat (first | refine blk_drewN ?_ _ | refine blk_drew ?_ | refine blk_alloc ?_ _)); exact BK263.out⟩
          have n4_ : Aside0 (((((w59.setCell ⟨gb287, 0, none⟩ (.int .u64 t282)).setCell ⟨gb287, 1, none⟩ (.int .u64 t283)).setCell ⟨gb287, 2, none⟩ (.int .u64 t284)).setCell ⟨gb287, 3, none⟩ (.int .u64 t285)).heap[gb269]? = some (.cells #[.int .u64 t264, .int .u64 t265, .int .u64 t266, .int .u64 t267] 27 (0, 0))) := ⟨by (with_reducible repeat (first | refine blk_drewN ?_ _ | refine blk_drew ?_ | refine blk_alloc ?_ _)); refine blk_far ?_ NB269_287.out _; (with_reducible repeat (first | refine blk_drewN ?_ _ | refine blk_drew ?_ | refine blk_alloc ?_ _)); refine blk_far ?_ NB269_287.out _; (with_reducible repeat (first | refine blk_drewN ?_ _ | refine blk_drew ?_ | refine blk_alloc ?_ _)); refine blk_far ?_ NB269_287.out _; (with_reducible repeat (first | refine blk_drewN ?_ _ | refine blk_drew ?_ | refine blk_alloc ?_ _)); refine blk_far ?_ NB269_287.out _; (with_reducible repeat (first | refine blk_drewN ?_ _ | refine blk_drew ?_ | refine blk_alloc ?_ _)); exact BK269.out⟩
          have n5_ : Aside0 (((((w59.setCell ⟨gb287, 0, none⟩ (.int .u64 t282)).setCell ⟨gb287, 1, none⟩ (.int .u64 t283)).setCell ⟨gb287, 2, none⟩ (.int .u64 t284)).setCell ⟨gb287, 3, none⟩ (.int .u64 t285)).heap[gb275]? = some (.cells #[.int .u64 t270, .int .u64 t271, .int .u64 t272, .int .u64 t273] 27 (0, 0))) := ⟨by (with_reducible repeat (first | refine blk_drewN ?_ _ | refine blk_drew ?_ | refine blk_alloc ?_ _)); refine blk_far ?_ NB275_287.out _; (with_reducible repeat (first | refine blk_drewN ?_ _ | refine blk_drew ?_ | refine blk_alloc ?_ _)); refine blk_far ?_ NB275_287.out _; (with_reducible repeat (first | refine blk_drewN ?_ _ | refine blk_drew ?_ | refine blk_alloc ?_ _)); refine blk_far ?_ NB275_287.out _; (with_reducible repeat (first | refine blk_drewN ?_ _ | refine blk_drew ?_ | refine blk_alloc ?_ _)); refine blk_far ?_ NB275_287.out _; (with_reducible repeat (first | refine blk_drewN ?_ _ | refine blk_drew ?_ | refine blk_alloc ?_ _)); exact BK275.out⟩
          have n6_ : Aside0 (((((w59.setCell ⟨gb287, 0, none⟩ (.int .u64 t282)).setCell ⟨gb287, 1, none⟩ (.int .u64 t283)).setCell ⟨gb287, 2, none⟩ (.int .u64 t284)).setCell ⟨gb287, 3, none⟩ (.int .u64 t285)).heap[gb281]? = some (.cells #[.int .u64 t276, .int .u64 t277, .int .u64 t278, .int .u64 t279] 27 (0, 0))) := ⟨by (with_reducible repeat (first | refine blk_drewN ?_ _ | refine blk_drew ?_ | refine blk_alloc ?_ _)); refine blk_far ?_ NB281_287.out _; (with_reducible repeat (first | refine blk_drewN ?_ _ | refine blk_drew ?_ | refine blk_alloc ?_ _)); refine blk_far ?_ NB281_287.out _; (with_reducible repeat (first | refine blk_drewN ?_ _ | refine blk_drew ?_ | refine blk_alloc ?_ _)); refine blk_far ?_ NB281_287.out _; (with_reducible repeat (first | refine blk_drewN ?_ _ | refine blk_drew ?_ | refine blk_alloc ?_ _)); refine blk_far ?_ NB281_287.out _; (with_reducible repeat (first | refine blk_drewN ?_ _ | refine blk_drew ?_ | refine blk_alloc ?_ _)); exact BK281.out⟩
          have n7_ : Aside0 (((((w59.setCell ⟨gb287, 0, none⟩ (.int .u64 t282)).setCell ⟨gb287, 1, none⟩ (.int .u64 t283)).setCell ⟨gb287, 2, none⟩ (.int .u64 t284)).setCell ⟨gb287, 3, none⟩ (.int .u64 t285)).heap[gb287]? = some (.cells #[.int .u64 t282, .int .u64 t283, .int .u64 t284, .int .u64 t285] 27 (0, 0))) := ⟨by (with_reducible repeat (first | refine blk_drewN ?_ _ | refine blk_drew ?_ | refine blk_alloc ?_ _)); refine blk_put (cs := #[.int .u64 t282, .int .u64 t283, .int .u64 t284, .int .u64 0]) ?_ 3 _ rfl; (with_reducible repeat (first | refine blk_drewN ?_ _ | refine blk_drew ?_ | refine blk_alloc ?_ _)); refine blk_put (cs := #[.int .u64 t282, .int .u64 t283, .int .u64 0, .int .u64 0]) ?_ 2 _ rfl; (with_reducible repeat (first | refine blk_drewN ?_ _ | refine blk_drew ?_ | refine blk_alloc ?_ _)); refine blk_put (cs := #[.int .u64 t282, .int .u64 0, .int .u64 0, .int .u64 0]) ?_ 1 _ rfl; (with_reducible repeat (first | refine blk_drewN ?_ _ | refine blk_drew ?_ | refine blk_alloc ?_ _)); refine blk_put (cs := #[.int .u64 0, .int .u64 0, .int .u64 0, .int .u64 0]) ?_ 0 _ rfl; (with_reducible repeat (first | refine blk_drewN ?_ _ | refine blk_drew ?_ | refine blk_alloc ?_ _)); exact BK287.out⟩
          have n8_ : Aside0 (Below w.heap.size w ((((w59.setCell ⟨gb287, 0, none⟩ (.int .u64 t282)).setCell ⟨gb287, 1, none⟩ (.int .u64 t283)).setCell ⟨gb287, 2, none⟩ (.int .u64 t284)).setCell ⟨gb287, 3, none⟩ (.int .u64 t285))) := ⟨by repeat (first | (with_reducible first | exact HB.out | apply below_alloc | apply pw_below_drewN | apply below_drew1 | refine below_set ?_ GE253.out | refine below_set ?_ GE254.out | refine below_set ?_ GE259.out | refine below_set ?_ GE263.out | refine below_set ?_ GE269.out | refine below_set ?_ GE275.out | refine below_set ?_ GE281.out | refine below_set ?_ GE287.out) | exact HB.out)⟩
          (try clear BK253)
          (try clear BK254)
          (try clear BK259)
          (try clear BK263)
          (try clear BK269)
          (try clear BK275)
          (try clear BK281)
          (try clear BK287)
          (try clear HB)
          generalize ((((w59.setCell ⟨gb287, 0, none⟩ (.int .u64 t282)).setCell ⟨gb287, 1, none⟩ (.int .u64 t283)).setCell ⟨gb287, 2, none⟩ (.int .u64 t284)).setCell ⟨gb287, 3, none⟩ (.int .u64 t285)) = w75 at n0_ n1_ n2_ n3_ n4_ n5_ n6_ n7_ n8_ ⊢
          have BK253 := n0_
          have BK254 := n1_
          have BK259 := n2_
          have BK263 := n3_
          have BK269 := n4_
          have BK275 := n5_
          have BK281 := n6_
          have BK287 := n7_
          have HB := n8_
          clear n0_ n1_ n2_ n3_ n4_ n5_ n6_ n7_ n8_
          have n0_ := Aside0.mk (blk_drew BK253.out)
          have n1_ := Aside0.mk (blk_drew BK254.out)
          have n2_ := Aside0.mk (blk_drew BK259.out)
          have n3_ := Aside0.mk (blk_drew BK263.out)
          have n4_ := Aside0.mk (blk_drew BK269.out)
          have n5_ := Aside0.mk (blk_drew BK275.out)
          have n6_ := Aside0.mk (blk_drew BK281.out)
          have n7_ := Aside0.mk (blk_drew BK287.out)
          have n8_ := Aside0.mk (below_drew1 HB.out)
          clear BK253
          clear BK254
          clear BK259
          clear BK263
          clear BK269
          clear BK275
          clear BK281
          clear BK287
          clear HB
          have BK253 := n0_
          have BK254 := n1_
          have BK259 := n2_
          have BK263 := n3_
          have BK269 := n4_
          have BK275 := n5_
          have BK281 := n6_
          have BK287 := n7_
          have HB := n8_
          clear n0_ n1_ n2_ n3_ n4_ n5_ n6_ n7_ n8_
          refine start_ (n := 25) (S := fun w' => w'.cell? ⟨gb253, 0, none⟩ = some (.int .u64 a0_0) ∧ w'.cell? ⟨gb253, 1, none⟩ = some (.int .u64 a0_1) ∧ w'.cell? ⟨gb259, 0, none⟩ = some (.int .u64 t256) ∧ w'.cell? ⟨gb259, 1, none⟩ = some (.int .u64 t257) ∧ w'.cell? ⟨gb263, 0, none⟩ = some (.int .u64 t260) ∧ w'.cell? ⟨gb263, 1, none⟩ = some (.int .u64 t261)) (ds := []) #[false, false, false, false, false, false, false, false, false, false, false, false, false, false, false, false, false, false, false, false, false, false, false, false, false] (by kernel_rfl) rfl rfl ⟨(blk_cell BK253.out 0).trans rfl, (blk_cell BK253.out 1).trans rfl, (blk_cell BK259.out 0).trans rfl, (blk_cell BK259.out 1).trans rfl, (blk_cell BK263.out 0).trans rfl, (blk_cell BK263.out 1).trans rfl⟩ (fun hHeld => ?_); refine with_tabW wigwaglaw19_CreditTells.tab8 wigwaglaw19_CreditTells.bits8 (fun HT_ HW_ => ?_)
          generalize w75.drew = w76 at BK253 BK254 BK259 BK263 BK269 BK275 BK281 BK287 HB hHeld ⊢
          refine take_ (i := 0) (N := some 60) (v := ?_) (a' := ?_) #[true, false, false, false, false, false, false, false, false, false, false, false, false, false, false, false, false, false, false, false, false, false, false, false, false] rfl rfl (take_ofW HT_.out HW_.out (by kernel_rfl)) (fun _ _ _ h => h) (Or.inl ⟨by rfl, ?_⟩) hHeld ?_ ?_
          rotate_left
          · rintro w' ⟨s0, s1, s2, s3, s4, s5⟩
            go_simp
            with_reducible rfl
          rotate_left
          · simp only [Act.put, List.setIfInBounds_toArray, List.set_cons_zero, List.set_cons_succ, i64_w, i32_w]
            rfl
          refine take_ (i := 2) (N := some 62) (v := ?_) (a' := ?_) #[true, false, true, false, false, false, false, false, false, false, false, false, false, false, false, false, false, false, false, false, false, false, false, false, false] rfl rfl (take_ofW HT_.out HW_.out (by kernel_rfl)) (fun _ _ _ h => h) (Or.inl ⟨by rfl, ?_⟩) hHeld ?_ ?_
          rotate_left
          · rintro w' ⟨s0, s1, s2, s3, s4, s5⟩
            go_simp
            with_reducible rfl
          rotate_left
          · simp only [Act.put, List.setIfInBounds_toArray, List.set_cons_zero, List.set_cons_succ, i64_w, i32_w]
            rfl
          refine one_ (i := 1) (N := some 61) #[true, true, true, false, false, false, false, false, false, false, false, false, false, false, false, false, false, false, false, false, false, false, false, false, false] rfl rfl (one_of HT_.out (by kernel_rfl)) (by decide) (fun K hK => ?_)
          refine goes_ Try.func16 (by kernel_rfl) rfl #[.agg #[.int .u64 a0_0, .int .u64 a0_1]] (by rfl) rfl rfl (by (try simp only [List.map_toArray, List.map_cons, List.map_nil]); first | done | rfl | (simp only [List.length_drop, List.length_take]; rfl)) ?_
          with_reducible refine (credit_Left.calls a0_0 a0_1 t288 _ A68.out).mono ?_
          rintro e w77 ⟨rfl, hb⟩
          refine ⟨_, rfl, ?_⟩
          have n0_ := Aside0.mk (blk_below (g := gb253) (o := .cells #[.int .u64 a0_0, .int .u64 a0_1] 25 (0, 0)) (by (with_reducible repeat (first | refine blk_drewN ?_ _ | refine blk_drew ?_ | refine blk_alloc ?_ _)); exact BK253.out) hb)
          have n1_ := Aside0.mk (blk_below (g := gb254) (o := .cells #[.int .u64 a1_0, .int .u64 a1_1, .int .u64 a1_2, .int .u64 a1_3] 27 (0, 0)) (by (with_reducible repeat (first | refine blk_drewN ?_ _ | refine blk_drew ?_ | refine blk_alloc ?_ _)); exact BK254.out) hb)
          have n2_ := Aside0.mk (blk_below (g := gb259) (o := .cells #[.int .u64 t256, .int .u64 t257] 25 (0, 0)) (by (with_reducible repeat (first | refine blk_drewN ?_ _ | refine blk_drew ?_ | refine blk_alloc ?_ _)); exact BK259.out) hb)
          have n3_ := Aside0.mk (blk_below (g := gb263) (o := .cells #[.int .u64 t260, .int .u64 t261] 25 (0, 0)) (by (with_reducible repeat (first | refine blk_drewN ?_ _ | refine blk_drew ?_ | refine blk_alloc ?_ _)); exact BK263.out) hb)
          have n4_ := Aside0.mk (blk_below (g := gb269) (o := .cells #[.int .u64 t264, .int .u64 t265, .int .u64 t266, .int .u64 t267] 27 (0, 0)) (by (with_reducible repeat (first | refine blk_drewN ?_ _ | refine blk_drew ?_ | refine blk_alloc ?_ _)); exact BK269.out) hb)
          have n5_ := Aside0.mk (blk_below (g := gb275) (o := .cells #[.int .u64 t270, .int .u64 t271, .int .u64 t272, .int .u64 t273] 27 (0, 0)) (by (with_reducible repeat (first | refine blk_drewN ?_ _ | refine blk_drew ?_ | refine blk_alloc ?_ _)); exact BK275.out) hb)
          have n6_ := Aside0.mk (blk_below (g := gb281) (o := .cells #[.int .u64 t276, .int .u64 t277, .int .u64 t278, .int .u64 t279] 27 (0, 0)) (by (with_reducible repeat (first | refine blk_drewN ?_ _ | refine blk_drew ?_ | refine blk_alloc ?_ _)); exact BK281.out) hb)
          have n7_ := Aside0.mk (blk_below (g := gb287) (o := .cells #[.int .u64 t282, .int .u64 t283, .int .u64 t284, .int .u64 t285] 27 (0, 0)) (by (with_reducible repeat (first | refine blk_drewN ?_ _ | refine blk_drew ?_ | refine blk_alloc ?_ _)); exact BK287.out) hb)
          have n8_ := Aside0.mk (below_step (by repeat (first | (with_reducible first | exact HB.out | apply below_alloc | apply pw_below_drewN | apply below_drew1 | refine below_set ?_ GE253.out | refine below_set ?_ GE254.out | refine below_set ?_ GE259.out | refine below_set ?_ GE263.out | refine below_set ?_ GE269.out | refine below_set ?_ GE275.out | refine below_set ?_ GE281.out | refine below_set ?_ GE287.out) | exact HB.out)) hb)
          clear BK253
          clear BK254
          clear BK259
          clear BK263
          clear BK269
          clear BK275
          clear BK281
          clear BK287
          clear HB
          have BK253 := n0_
          have BK254 := n1_
          have BK259 := n2_
          have BK263 := n3_
          have BK269 := n4_
          have BK275 := n5_
          have BK281 := n6_
          have BK287 := n7_
          have HB := n8_
          clear n0_ n1_ n2_ n3_ n4_ n5_ n6_ n7_ n8_
          (try clear hb)
          (try clear hb2)
          (try clear hk)
          (try clear hi)
          refine hK.out _ _ ⟨(blk_cell BK253.out 0).trans rfl, (blk_cell BK253.out 1).trans rfl, (blk_cell BK259.out 0).trans rfl, (blk_cell BK259.out 1).trans rfl, (blk_cell BK263.out 0).trans rfl, (blk_cell BK263.out 1).trans rfl⟩ (fun hHeld => ?_)
          clear hK K
          refine norm_ (a' := ?_) ?_ ?_
          rotate_left
          · show Act.put _ (some 61) _ = _
            simp only [Act.put, List.setIfInBounds_toArray, List.set_cons_zero, List.set_cons_succ, i64_w, i32_w]
            rfl
          refine one_ (i := 3) (N := some 63) #[true, true, true, true, false, false, false, false, false, false, false, false, false, false, false, false, false, false, false, false, false, false, false, false, false] rfl rfl (one_of HT_.out (by kernel_rfl)) (by decide) (fun K hK => ?_)
          refine goes_ Try.func17 (by kernel_rfl) rfl #[.agg #[.int .u64 a0_0, .int .u64 a0_1]] (by rfl) rfl rfl (by (try simp only [List.map_toArray, List.map_cons, List.map_nil]); first | done | rfl | (simp only [List.length_drop, List.length_take]; rfl)) ?_
          with_reducible refine (wigwagref19_Left.calls a0_0 a0_1 t289 _ A69.out).mono ?_
          rintro e w78 ⟨rfl, hb⟩
          refine ⟨_, rfl, ?_⟩
          have n0_ := Aside0.mk (blk_below (g := gb253) (o := .cells #[.int .u64 a0_0, .int .u64 a0_1] 25 (0, 0)) (by (with_reducible repeat (first | refine blk_drewN ?_ _ | refine blk_drew ?_ | refine blk_alloc ?_ _)); exact BK253.out) hb)
          have n1_ := Aside0.mk (blk_below (g := gb254) (o := .cells #[.int .u64 a1_0, .int .u64 a1_1, .int .u64 a1_2, .int .u64 a1_3] 27 (0, 0)) (by (with_reducible repeat (first | refine blk_drewN ?_ _ | refine blk_drew ?_ | refine blk_alloc ?_ _)); exact BK254.out) hb)
          have n2_ := Aside0.mk (blk_below (g := gb259) (o := .cells #[.int .u64 t256, .int .u64 t257] 25 (0, 0)) (by (with_reducible repeat (first | refine blk_drewN ?_ _ | refine blk_drew ?_ | refine blk_alloc ?_ _)); exact BK259.out) hb)
          have n3_ := Aside0.mk (blk_below (g := gb263) (o := .cells #[.int .u64 t260, .int .u64 t261] 25 (0, 0)) (by (with_reducible repeat (first | refine blk_drewN ?_ _ | refine blk_drew ?_ | refine blk_alloc ?_ _)); exact BK263.out) hb)
          have n4_ := Aside0.mk (blk_below (g := gb269) (o := .cells #[.int .u64 t264, .int .u64 t265, .int .u64 t266, .int .u64 t267] 27 (0, 0)) (by (with_reducible repeat (first | refine blk_drewN ?_ _ | refine blk_drew ?_ | refine blk_alloc ?_ _)); exact BK269.out) hb)
          have n5_ := Aside0.mk (blk_below (g := gb275) (o := .cells #[.int .u64 t270, .int .u64 t271, .int .u64 t272, .int .u64 t273] 27 (0, 0)) (by (with_reducible repeat (first | refine blk_drewN ?_ _ | refine blk_drew ?_ | refine blk_alloc ?_ _)); exact BK275.out) hb)
          have n6_ := Aside0.mk (blk_below (g := gb281) (o := .cells #[.int .u64 t276, .int .u64 t277, .int .u64 t278, .int .u64 t279] 27 (0, 0)) (by (with_reducible repeat (first | refine blk_drewN ?_ _ | refine blk_drew ?_ | refine blk_alloc ?_ _)); exact BK281.out) hb)
          have n7_ := Aside0.mk (blk_below (g := gb287) (o := .cells #[.int .u64 t282, .int .u64 t283, .int .u64 t284, .int .u64 t285] 27 (0, 0)) (by (with_reducible repeat (first | refine blk_drewN ?_ _ | refine blk_drew ?_ | refine blk_alloc ?_ _)); exact BK287.out) hb)
          have n8_ := Aside0.mk (below_step (by repeat (first | (with_reducible first | exact HB.out | apply below_alloc | apply pw_below_drewN | apply below_drew1 | refine below_set ?_ GE253.out | refine below_set ?_ GE254.out | refine below_set ?_ GE259.out | refine below_set ?_ GE263.out | refine below_set ?_ GE269.out | refine below_set ?_ GE275.out | refine below_set ?_ GE281.out | refine below_set ?_ GE287.out) | exact HB.out)) hb)
          clear BK253
          clear BK254
          clear BK259
          clear BK263
          clear BK269
          clear BK275
          clear BK281
          clear BK287
          clear HB
          have BK253 := n0_
          have BK254 := n1_
          have BK259 := n2_
          have BK263 := n3_
          have BK269 := n4_
          have BK275 := n5_
          have BK281 := n6_
          have BK287 := n7_
          have HB := n8_
          clear n0_ n1_ n2_ n3_ n4_ n5_ n6_ n7_ n8_
          (try clear hb)
          (try clear hb2)
          (try clear hk)
          (try clear hi)
          refine hK.out _ _ ⟨(blk_cell BK253.out 0).trans rfl, (blk_cell BK253.out 1).trans rfl, (blk_cell BK259.out 0).trans rfl, (blk_cell BK259.out 1).trans rfl, (blk_cell BK263.out 0).trans rfl, (blk_cell BK263.out 1).trans rfl⟩ (fun hHeld => ?_)
          clear hK K
          refine norm_ (a' := ?_) ?_ ?_
          rotate_left
          · show Act.put _ (some 63) _ = _
            simp only [Act.put, List.setIfInBounds_toArray, List.set_cons_zero, List.set_cons_succ, i64_w, i32_w]
            rfl
          refine pure_ (i := 4) (N := some 64) (v := ?_) (a' := ?_) #[true, true, true, true, true, false, false, false, false, false, false, false, false, false, false, false, false, false, false, false, false, false, false, false, false] rfl rfl (any_of HT_.out (by kernel_rfl)) (fun _ _ _ h => h) (Or.inl ⟨by rfl, ?_⟩) ?_ ?_
          rotate_left
          · intro w'
            go_simp
            with_reducible rfl
          rotate_left
          · simp only [Act.put, List.setIfInBounds_toArray, List.set_cons_zero, List.set_cons_succ, i64_w, i32_w]
            rfl
          refine pure_ (i := 5) (N := some 65) (v := ?_) (a' := ?_) #[true, true, true, true, true, true, false, false, false, false, false, false, false, false, false, false, false, false, false, false, false, false, false, false, false] rfl rfl (any_of HT_.out (by kernel_rfl)) (fun _ _ _ h => h) (Or.inl ⟨by rfl, ?_⟩) ?_ ?_
          rotate_left
          · intro w'
            go_simp
            with_reducible rfl
          rotate_left
          · simp only [Act.put, List.setIfInBounds_toArray, List.set_cons_zero, List.set_cons_succ, i64_w, i32_w]
            rfl
          refine take_ (i := 6) (N := some 66) (v := ?_) (a' := ?_) #[true, true, true, true, true, true, true, false, false, false, false, false, false, false, false, false, false, false, false, false, false, false, false, false, false] rfl rfl (take_ofW HT_.out HW_.out (by kernel_rfl)) (fun _ _ _ h => h) (Or.inl ⟨by rfl, ?_⟩) hHeld ?_ ?_
          rotate_left
          · rintro w' ⟨s0, s1, s2, s3, s4, s5⟩
            go_simp
            with_reducible rfl
          rotate_left
          · simp only [Act.put, List.setIfInBounds_toArray, List.set_cons_zero, List.set_cons_succ, i64_w, i32_w]
            rfl
          refine take_ (i := 7) (N := some 67) (v := ?_) (a' := ?_) #[true, true, true, true, true, true, true, true, false, false, false, false, false, false, false, false, false, false, false, false, false, false, false, false, false] rfl rfl (take_ofW HT_.out HW_.out (by kernel_rfl)) (fun _ _ _ h => h) (Or.inl ⟨by rfl, ?_⟩) hHeld ?_ ?_
          rotate_left
          · rintro w' ⟨s0, s1, s2, s3, s4, s5⟩
            go_simp
            with_reducible rfl
          rotate_left
          · simp only [Act.put, List.setIfInBounds_toArray, List.set_cons_zero, List.set_cons_succ, i64_w, i32_w]
            rfl
          refine pure_ (i := 8) (N := some 68) (v := ?_) (a' := ?_) #[true, true, true, true, true, true, true, true, true, false, false, false, false, false, false, false, false, false, false, false, false, false, false, false, false] rfl rfl (any_of HT_.out (by kernel_rfl)) (fun _ _ _ h => h) (Or.inl ⟨by rfl, ?_⟩) ?_ ?_
          rotate_left
          · intro w'
            go_simp
            with_reducible rfl
          rotate_left
          · simp only [Act.put, List.setIfInBounds_toArray, List.set_cons_zero, List.set_cons_succ, i64_w, i32_w]
            rfl
          refine pure_ (i := 9) (N := some 69) (v := ?_) (a' := ?_) #[true, true, true, true, true, true, true, true, true, true, false, false, false, false, false, false, false, false, false, false, false, false, false, false, false] rfl rfl (any_of HT_.out (by kernel_rfl)) (fun _ _ _ h => h) (Or.inl ⟨by rfl, ?_⟩) ?_ ?_
          rotate_left
          · intro w'
            go_simp
            with_reducible rfl
          rotate_left
          · simp only [Act.put, List.setIfInBounds_toArray, List.set_cons_zero, List.set_cons_succ, i64_w, i32_w]
            rfl
          refine pure_ (i := 10) (N := some 70) (v := ?_) (a' := ?_) #[true, true, true, true, true, true, true, true, true, true, true, false, false, false, false, false, false, false, false, false, false, false, false, false, false] rfl rfl (any_of HT_.out (by kernel_rfl)) (fun _ _ _ h => h) (Or.inl ⟨by rfl, ?_⟩) ?_ ?_
          rotate_left
          · intro w'
            go_simp
            with_reducible rfl
          rotate_left
          · simp only [Act.put, List.setIfInBounds_toArray, List.set_cons_zero, List.set_cons_succ, i64_w, i32_w]
            rfl
          refine pure_ (i := 11) (N := some 71) (v := ?_) (a' := ?_) #[true, true, true, true, true, true, true, true, true, true, true, true, false, false, false, false, false, false, false, false, false, false, false, false, false] rfl rfl (any_of HT_.out (by kernel_rfl)) (fun _ _ _ h => h) (Or.inl ⟨by rfl, ?_⟩) ?_ ?_
          rotate_left
          · intro w'
            go_simp
            with_reducible rfl
          rotate_left
          · simp only [Act.put, List.setIfInBounds_toArray, List.set_cons_zero, List.set_cons_succ, i64_w, i32_w]
            rfl
          refine pure_ (i := 12) (N := some 72) (v := ?_) (a' := ?_) #[true, true, true, true, true, true, true, true, true, true, true, true, true, false, false, false, false, false, false, false, false, false, false, false, false] rfl rfl (any_of HT_.out (by kernel_rfl)) (fun _ _ _ h => h) (Or.inl ⟨by rfl, ?_⟩) ?_ ?_
          rotate_left
          · intro w'
            go_simp
            with_reducible rfl
          rotate_left
          · simp only [Act.put, List.setIfInBounds_toArray, List.set_cons_zero, List.set_cons_succ, i64_w, i32_w]
            rfl
          refine pure_ (i := 13) (N := some 73) (v := ?_) (a' := ?_) #[true, true, true, true, true, true, true, true, true, true, true, true, true, true, false, false, false, false, false, false, false, false, false, false, false] rfl rfl (any_of HT_.out (by kernel_rfl)) (fun _ _ _ h => h) (Or.inl ⟨by rfl, ?_⟩) ?_ ?_
          rotate_left
          · intro w'
            go_simp
            with_reducible rfl
          rotate_left
          · simp only [Act.put, List.setIfInBounds_toArray, List.set_cons_zero, List.set_cons_succ, i64_w, i32_w]
            rfl
          refine pure_ (i := 14) (N := some 74) (v := ?_) (a' := ?_) #[true, true, true, true, true, true, true, true, true, true, true, true, true, true, true, false, false, false, false, false, false, false, false, false, false] rfl rfl (any_of HT_.out (by kernel_rfl)) (fun _ _ _ h => h) (Or.inl ⟨by rfl, ?_⟩) ?_ ?_
          rotate_left
          · intro w'
            go_simp
            with_reducible rfl
          rotate_left
          · simp only [Act.put, List.setIfInBounds_toArray, List.set_cons_zero, List.set_cons_succ, i64_w, i32_w]
            rfl
          refine pure_ (i := 15) (N := some 75) (v := ?_) (a' := ?_) #[true, true, true, true, true, true, true, true, true, true, true, true, true, true, true, true, false, false, false, false, false, false, false, false, false] rfl rfl (any_of HT_.out (by kernel_rfl)) (fun _ _ _ h => h) (Or.inl ⟨by rfl, ?_⟩) ?_ ?_
          rotate_left
          · intro w'
            go_simp
            with_reducible rfl
          rotate_left
          · simp only [Act.put, List.setIfInBounds_toArray, List.set_cons_zero, List.set_cons_succ, i64_w, i32_w]
            rfl
          refine pure_ (i := 17) (N := some 77) (v := ?_) (a' := ?_) #[true, true, true, true, true, true, true, true, true, true, true, true, true, true, true, true, false, true, false, false, false, false, false, false, false] rfl rfl (any_of HT_.out (by kernel_rfl)) (fun _ _ _ h => h) (Or.inl ⟨by rfl, ?_⟩) ?_ ?_
          rotate_left
          · intro w'
            go_simp
            with_reducible rfl
          rotate_left
          · simp only [Act.put, List.setIfInBounds_toArray, List.set_cons_zero, List.set_cons_succ, i64_w, i32_w]
            rfl
          refine pure_ (i := 20) (N := some 80) (v := ?_) (a' := ?_) #[true, true, true, true, true, true, true, true, true, true, true, true, true, true, true, true, false, true, false, false, true, false, false, false, false] rfl rfl (any_of HT_.out (by kernel_rfl)) (fun _ _ _ h => h) (Or.inl ⟨by rfl, ?_⟩) ?_ ?_
          rotate_left
          · intro w'
            go_simp
            with_reducible rfl
          rotate_left
          · simp only [Act.put, List.setIfInBounds_toArray, List.set_cons_zero, List.set_cons_succ, i64_w, i32_w]
            rfl
          refine take_ (i := 16) (N := some 76) (v := ?_) (a' := ?_) #[true, true, true, true, true, true, true, true, true, true, true, true, true, true, true, true, true, true, false, false, true, false, false, false, false] rfl rfl (take_ofW HT_.out HW_.out (by kernel_rfl)) (fun _ _ _ h => h) (Or.inl ⟨by rfl, ?_⟩) hHeld ?_ ?_
          rotate_left
          · rintro w' ⟨s0, s1, s2, s3, s4, s5⟩
            go_simp
            with_reducible rfl
          rotate_left
          · simp only [Act.put, List.setIfInBounds_toArray, List.set_cons_zero, List.set_cons_succ, i64_w, i32_w]
            rfl
          refine take_ (i := 19) (N := some 79) (v := ?_) (a' := ?_) #[true, true, true, true, true, true, true, true, true, true, true, true, true, true, true, true, true, true, false, true, true, false, false, false, false] rfl rfl (take_ofW HT_.out HW_.out (by kernel_rfl)) (fun _ _ _ h => h) (Or.inl ⟨by rfl, ?_⟩) hHeld ?_ ?_
          rotate_left
          · rintro w' ⟨s0, s1, s2, s3, s4, s5⟩
            go_simp
            with_reducible rfl
          rotate_left
          · simp only [Act.put, List.setIfInBounds_toArray, List.set_cons_zero, List.set_cons_succ, i64_w, i32_w]
            rfl
          refine one_ (i := 18) (N := some 78) #[true, true, true, true, true, true, true, true, true, true, true, true, true, true, true, true, true, true, true, true, true, false, false, false, false] rfl rfl (one_of HT_.out (by kernel_rfl)) (by decide) (fun K hK => ?_)
          refine goes_ Try.func18 (by kernel_rfl) rfl #[.agg #[.int .u64 a0_0, .int .u64 a0_1], .int .u64 a3] (by rfl) rfl rfl (by (try simp only [List.map_toArray, List.map_cons, List.map_nil]); first | done | rfl | (simp only [List.length_drop, List.length_take]; rfl)) ?_
          with_reducible refine (credit_Raise.calls a0_0 a0_1 a3 t290 t291 _ A73.out).mono ?_
          rintro e w79 ⟨rfl, hb⟩
          refine ⟨_, rfl, ?_⟩
          have n0_ := Aside0.mk (blk_below (g := gb253) (o := .cells #[.int .u64 a0_0, .int .u64 a0_1] 25 (0, 0)) (by (with_reducible repeat (first | refine blk_drewN ?_ _ | refine blk_drew ?_ | refine blk_alloc ?_ _)); exact BK253.out) hb)
          have n1_ := Aside0.mk (blk_below (g := gb254) (o := .cells #[.int .u64 a1_0, .int .u64 a1_1, .int .u64 a1_2, .int .u64 a1_3] 27 (0, 0)) (by (with_reducible repeat (first | refine blk_drewN ?_ _ | refine blk_drew ?_ | refine blk_alloc ?_ _)); exact BK254.out) hb)
          have n2_ := Aside0.mk (blk_below (g := gb259) (o := .cells #[.int .u64 t256, .int .u64 t257] 25 (0, 0)) (by (with_reducible repeat (first | refine blk_drewN ?_ _ | refine blk_drew ?_ | refine blk_alloc ?_ _)); exact BK259.out) hb)
          have n3_ := Aside0.mk (blk_below (g := gb263) (o := .cells #[.int .u64 t260, .int .u64 t261] 25 (0, 0)) (by (with_reducible repeat (first | refine blk_drewN ?_ _ | refine blk_drew ?_ | refine blk_alloc ?_ _)); exact BK263.out) hb)
          have n4_ := Aside0.mk (blk_below (g := gb269) (o := .cells #[.int .u64 t264, .int .u64 t265, .int .u64 t266, .int .u64 t267] 27 (0, 0)) (by (with_reducible repeat (first | refine blk_drewN ?_ _ | refine blk_drew ?_ | refine blk_alloc ?_ _)); exact BK269.out) hb)
          have n5_ := Aside0.mk (blk_below (g := gb275) (o := .cells #[.int .u64 t270, .int .u64 t271, .int .u64 t272, .int .u64 t273] 27 (0, 0)) (by (with_reducible repeat (first | refine blk_drewN ?_ _ | refine blk_drew ?_ | refine blk_alloc ?_ _)); exact BK275.out) hb)
          have n6_ := Aside0.mk (blk_below (g := gb281) (o := .cells #[.int .u64 t276, .int .u64 t277, .int .u64 t278, .int .u64 t279] 27 (0, 0)) (by (with_reducible repeat (first | refine blk_drewN ?_ _ | refine blk_drew ?_ | refine blk_alloc ?_ _)); exact BK281.out) hb)
          have n7_ := Aside0.mk (blk_below (g := gb287) (o := .cells #[.int .u64 t282, .int .u64 t283, .int .u64 t284, .int .u64 t285] 27 (0, 0)) (by (with_reducible repeat (first | refine blk_drewN ?_ _ | refine blk_drew ?_ | refine blk_alloc ?_ _)); exact BK287.out) hb)
          have n8_ := Aside0.mk (below_step (by repeat (first | (with_reducible first | exact HB.out | apply below_alloc | apply pw_below_drewN | apply below_drew1 | refine below_set ?_ GE253.out | refine below_set ?_ GE254.out | refine below_set ?_ GE259.out | refine below_set ?_ GE263.out | refine below_set ?_ GE269.out | refine below_set ?_ GE275.out | refine below_set ?_ GE281.out | refine below_set ?_ GE287.out) | exact HB.out)) hb)
          clear BK253
          clear BK254
          clear BK259
          clear BK263
          clear BK269
          clear BK275
          clear BK281
          clear BK287
          clear HB
          have BK253 := n0_
          have BK254 := n1_
          have BK259 := n2_
          have BK263 := n3_
          have BK269 := n4_
          have BK275 := n5_
          have BK281 := n6_
          have BK287 := n7_
          have HB := n8_
          clear n0_ n1_ n2_ n3_ n4_ n5_ n6_ n7_ n8_
          (try clear hb)
          (try clear hb2)
          (try clear hk)
          (try clear hi)
          refine hK.out _ _ ⟨(blk_cell BK253.out 0).trans rfl, (blk_cell BK253.out 1).trans rfl, (blk_cell BK259.out 0).trans rfl, (blk_cell BK259.out 1).trans rfl, (blk_cell BK263.out 0).trans rfl, (blk_cell BK263.out 1).trans rfl⟩ (fun hHeld => ?_)
          clear hK K
          refine norm_ (a' := ?_) ?_ ?_
          rotate_left
          · show Act.put _ (some 78) _ = _
            simp only [Act.put, List.setIfInBounds_toArray, List.set_cons_zero, List.set_cons_succ, i64_w, i32_w]
            rfl
          refine one_ (i := 21) (N := some 81) #[true, true, true, true, true, true, true, true, true, true, true, true, true, true, true, true, true, true, true, true, true, true, false, false, false] rfl rfl (one_of HT_.out (by kernel_rfl)) (by decide) (fun K hK => ?_)
          refine goes_ Try.func19 (by kernel_rfl) rfl #[.agg #[.int .u64 a0_0, .int .u64 a0_1], .int .u64 a3] (by rfl) rfl rfl (by (try simp only [List.map_toArray, List.map_cons, List.map_nil]); first | done | rfl | (simp only [List.length_drop, List.length_take]; rfl)) ?_
          with_reducible refine (wigwagref19_Raise.calls a0_0 a0_1 a3 t292 t293 _ A74.out).mono ?_
          rintro e w80 ⟨rfl, hb⟩
          refine ⟨_, rfl, ?_⟩
          have n0_ := Aside0.mk (blk_below (g := gb253) (o := .cells #[.int .u64 a0_0, .int .u64 a0_1] 25 (0, 0)) (by (with_reducible repeat (first | refine blk_drewN ?_ _ | refine blk_drew ?_ | refine blk_alloc ?_ _)); exact BK253.out) hb)
          have n1_ := Aside0.mk (blk_below (g := gb254) (o := .cells #[.int .u64 a1_0, .int .u64 a1_1, .int .u64 a1_2, .int .u64 a1_3] 27 (0, 0)) (by (with_reducible repeat (first | refine blk_drewN ?_ _ | refine blk_drew ?_ | refine blk_alloc ?_ _)); exact BK254.out) hb)
          have n2_ := Aside0.mk (blk_below (g := gb259) (o := .cells #[.int .u64 t256, .int .u64 t257] 25 (0, 0)) (by (with_reducible repeat (first | refine blk_drewN ?_ _ | refine blk_drew ?_ | refine blk_alloc ?_ _)); exact BK259.out) hb)
          have n3_ := Aside0.mk (blk_below (g := gb263) (o := .cells #[.int .u64 t260, .int .u64 t261] 25 (0, 0)) (by (with_reducible repeat (first | refine blk_drewN ?_ _ | refine blk_drew ?_ | refine blk_alloc ?_ _)); exact BK263.out) hb)
          have n4_ := Aside0.mk (blk_below (g := gb269) (o := .cells #[.int .u64 t264, .int .u64 t265, .int .u64 t266, .int .u64 t267] 27 (0, 0)) (by (with_reducible repeat (first | refine blk_drewN ?_ _ | refine blk_drew ?_ | refine blk_alloc ?_ _)); exact BK269.out) hb)
          have n5_ := Aside0.mk (blk_below (g := gb275) (o := .cells #[.int .u64 t270, .int .u64 t271, .int .u64 t272, .int .u64 t273] 27 (0, 0)) (by (with_reducible repeat (first | refine blk_drewN ?_ _ | refine blk_drew ?_ | refine blk_alloc ?_ _)); exact BK275.out) hb)
          have n6_ := Aside0.mk (blk_below (g := gb281) (o := .cells #[.int .u64 t276, .int .u64 t277, .int .u64 t278, .int .u64 t279] 27 (0, 0)) (by (with_reducible repeat (first | refine blk_drewN ?_ _ | refine blk_drew ?_ | refine blk_alloc ?_ _)); exact BK281.out) hb)
          have n7_ := Aside0.mk (blk_below (g := gb287) (o := .cells #[.int .u64 t282, .int .u64 t283, .int .u64 t284, .int .u64 t285] 27 (0, 0)) (by (with_reducible repeat (first | refine blk_drewN ?_ _ | refine blk_drew ?_ | refine blk_alloc ?_ _)); exact BK287.out) hb)
          have n8_ := Aside0.mk (below_step (by repeat (first | (with_reducible first | exact HB.out | apply below_alloc | apply pw_below_drewN | apply below_drew1 | refine below_set ?_ GE253.out | refine below_set ?_ GE254.out | refine below_set ?_ GE259.out | refine below_set ?_ GE263.out | refine below_set ?_ GE269.out | refine below_set ?_ GE275.out | refine below_set ?_ GE281.out | refine below_set ?_ GE287.out) | exact HB.out)) hb)
          clear BK253
          clear BK254
          clear BK259
          clear BK263
          clear BK269
          clear BK275
          clear BK281
          clear BK287
          clear HB
          have BK253 := n0_
          have BK254 := n1_
          have BK259 := n2_
          have BK263 := n3_
          have BK269 := n4_
          have BK275 := n5_
          have BK281 := n6_
          have BK287 := n7_
          have HB := n8_
          clear n0_ n1_ n2_ n3_ n4_ n5_ n6_ n7_ n8_
          (try clear hb)
          (try clear hb2)
          (try clear hk)
          (try clear hi)
          refine hK.out _ _ ⟨(blk_cell BK253.out 0).trans rfl, (blk_cell BK253.out 1).trans rfl, (blk_cell BK259.out 0).trans rfl, (blk_cell BK259.out 1).trans rfl, (blk_cell BK263.out 0).trans rfl, (blk_cell BK263.out 1).trans rfl⟩ (fun hHeld => ?_)
          clear hK K
          refine norm_ (a' := ?_) ?_ ?_
          rotate_left
          · show Act.put _ (some 81) _ = _
            simp only [Act.put, List.setIfInBounds_toArray, List.set_cons_zero, List.set_cons_succ, i64_w, i32_w]
            rfl
          refine pure_ (i := 22) (N := some 82) (v := ?_) (a' := ?_) #[true, true, true, true, true, true, true, true, true, true, true, true, true, true, true, true, true, true, true, true, true, true, true, false, false] rfl rfl (any_of HT_.out (by kernel_rfl)) (fun _ _ _ h => h) (Or.inl ⟨by rfl, ?_⟩) ?_ ?_
          rotate_left
          · intro w'
            go_simp
            with_reducible rfl
          rotate_left
          · simp only [Act.put, List.setIfInBounds_toArray, List.set_cons_zero, List.set_cons_succ, i64_w, i32_w]
            rfl
          refine pure_ (i := 23) (N := some 83) (v := ?_) (a' := ?_) #[true, true, true, true, true, true, true, true, true, true, true, true, true, true, true, true, true, true, true, true, true, true, true, true, false] rfl rfl (any_of HT_.out (by kernel_rfl)) (fun _ _ _ h => h) (Or.inl ⟨by rfl, ?_⟩) ?_ ?_
          rotate_left
          · intro w'
            go_simp
            with_reducible rfl
          rotate_left
          · simp only [Act.put, List.setIfInBounds_toArray, List.set_cons_zero, List.set_cons_succ, i64_w, i32_w]
            rfl
          refine pure_ (i := 24) (N := some 22) (v := ?_) (a' := ?_) #[true, true, true, true, true, true, true, true, true, true, true, true, true, true, true, true, true, true, true, true, true, true, true, true, true] rfl rfl (any_of HT_.out (by kernel_rfl)) (fun _ _ _ h => h) (Or.inl ⟨by rfl, ?_⟩) ?_ ?_
          rotate_left
          · intro w'
            go_simp
            with_reducible rfl
          rotate_left
          · simp only [Act.put, List.setIfInBounds_toArray, List.set_cons_zero, List.set_cons_succ, i64_w, i32_w]
            rfl
          refine done_ (done_of HT_.out (by kernel_rfl)) ?_
          try go_wp2
          go_meet
          case rel => exact ⟨_, ((t290 == t292 && (t291 == t293))), (by first | rfl | (simp; done) | (simp [*]; done)), H', ⟨by first | omega | exact Nat.le_refl _⟩, ⟨by (with_reducible repeat (first | refine blk_drewN ?_ _ | refine blk_drew ?_ | refine blk_alloc ?_ _)); exact BK253.out⟩, ⟨by (with_reducible repeat (first | refine blk_drewN ?_ _ | refine blk_drew ?_ | refine blk_alloc ?_ _)); exact BK254.out⟩, ⟨by (with_reducible repeat (first | refine blk_drewN ?_ _ | refine blk_drew ?_ | refine blk_alloc ?_ _)); exact BK259.out⟩, ⟨by (with_reducible repeat (first | refine blk_drewN ?_ _ | refine blk_drew ?_ | refine blk_alloc ?_ _)); exact BK263.out⟩, ⟨by (with_reducible repeat (first | refine blk_drewN ?_ _ | refine blk_drew ?_ | refine blk_alloc ?_ _)); exact BK269.out⟩, ⟨by (with_reducible repeat (first | refine blk_drewN ?_ _ | refine blk_drew ?_ | refine blk_alloc ?_ _)); exact BK275.out⟩, ⟨by (with_reducible repeat (first | refine blk_drewN ?_ _ | refine blk_drew ?_ | refine blk_alloc ?_ _)); exact BK281.out⟩, ⟨by (with_reducible repeat (first | refine blk_drewN ?_ _ | refine blk_drew ?_ | refine blk_alloc ?_ _)); exact BK287.out⟩, ⟨by repeat (first | (with_reducible first | exact HB.out | apply below_alloc | apply pw_below_drewN | apply below_drew1 | refine below_set ?_ GE253.out | refine below_set ?_ GE254.out | refine below_set ?_ GE259.out | refine below_set ?_ GE263.out | refine below_set ?_ GE269.out | refine below_set ?_ GE275.out | refine below_set ?_ GE281.out | refine below_set ?_ GE287.out) | exact HB.out)⟩⟩
        · rw [if_neg c72] at H
          have c72b0 : (t258 == t262) = false := by simpa using c72
          (try (have c72b1 : decide (t258 = t262) = false := by simpa using c72))
          (try (have c72b2 : (t258 == t262) = false := by simpa using c72))
          (try (have c72b3 : ¬ (t258 = t262) := by simpa using c72))
          clear c72
          have H' := Aside0.mk H
          clear H
          try go_wp2
          have n0_ : Aside0 (((((w59.setCell ⟨gb287, 0, none⟩ (.int .u64 t282)).setCell ⟨gb287, 1, none⟩ (.int .u64 t283)).setCell ⟨gb287, 2, none⟩ (.int .u64 t284)).setCell ⟨gb287, 3, none⟩ (.int .u64 t285)).heap[gb253]? = some (.cells #[.int .u64 a0_0, .int .u64 a0_1] 25 (0, 0))) := ⟨by (with_reducible repeat (first | refine blk_drewN ?_ _ | refine blk_drew ?_ | refine blk_alloc ?_ _)); refine blk_far ?_ NB253_287.out _; (with_reducible repeat (first | refine blk_drewN ?_ _ | refine blk_drew ?_ | refine blk_alloc ?_ _)); refine blk_far ?_ NB253_287.out _; (with_reducible repeat (first | refine blk_drewN ?_ _ | refine blk_drew ?_ | refine blk_alloc ?_ _)); refine blk_far ?_ NB253_287.out _; (with_reducible repeat (first | refine blk_drewN ?_ _ | refine blk_drew ?_ | refine blk_alloc ?_ _)); refine blk_far ?_ NB253_287.out _; (with_reducible repeat (first | refine blk_drewN ?_ _ | refine blk_drew ?_ | refine blk_alloc ?_ _)); exact BK253.out⟩
          have n1_ : Aside0 (((((w59.setCell ⟨gb287, 0, none⟩ (.int .u64 t282)).setCell ⟨gb287, 1, none⟩ (.int .u64 t283)).setCell ⟨gb287, 2, none⟩ (.int .u64 t284)).setCell ⟨gb287, 3, none⟩ (.int .u64 t285)).heap[gb254]? = some (.cells #[.int .u64 a1_0, .int .u64 a1_1, .int .u64 a1_2, .int .u64 a1_3] 27 (0, 0))) := ⟨by (with_reducible repeat (first | refine blk_drewN ?_ _ | refine blk_drew ?_ | refine blk_alloc ?_ _)); refine blk_far ?_ NB254_287.out _; (with_reducible repeat (first | refine blk_drewN ?_ _ | refine blk_drew ?_ | refine blk_alloc ?_ _)); refine blk_far ?_ NB254_287.out _; (with_reducible repeat (first | refine blk_drewN ?_ _ | refine blk_drew ?_ | refine blk_alloc ?_ _)); refine blk_far ?_ NB254_287.out _; (with_reducible repeat (first | refine blk_drewN ?_ _ | refine blk_drew ?_ | refine blk_alloc ?_ _)); refine blk_far ?_ NB254_287.out _; (with_reducible repeat (first | refine blk_drewN ?_ _ | refine blk_drew ?_ | refine blk_alloc ?_ _)); exact BK254.out⟩
          have n2_ : Aside0 (((((w59.setCell ⟨gb287, 0, none⟩ (.int .u64 t282)).setCell ⟨gb287, 1, none⟩ (.int .u64 t283)).setCell ⟨gb287, 2, none⟩ (.int .u64 t284)).setCell ⟨gb287, 3, none⟩ (.int .u64 t285)).heap[gb259]? = some (.cells #[.int .u64 t256, .int .u64 t257] 25 (0, 0))) := ⟨by (with_reducible repeat (first | refine blk_drewN ?_ _ | refine blk_drew ?_ | refine blk_alloc ?_ _)); refine blk_far ?_ NB259_287.out _; (with_reducible repeat (first | refine blk_drewN ?_ _ | refine blk_drew ?_ | refine blk_alloc ?_ _)); refine blk_far ?_ NB259_287.out _; (with_reducible repeat (first | refine blk_drewN ?_ _ | refine blk_drew ?_ | refine blk_alloc ?_ _)); refine blk_far ?_ NB259_287.out _; (with_reducible repeat (first | refine blk_drewN ?_ _ | refine blk_drew ?_ | refine blk_alloc ?_ _)); refine blk_far ?_ NB259_287.out _; (with_reducible repeat (first | refine blk_drewN ?_ _ | refine blk_drew ?_ | refine blk_alloc ?_ _)); exact BK259.out⟩
          have n3_ : Aside0 (((((w59.setCell ⟨gb287, 0, none⟩ (.int .u64 t282)).setCell ⟨gb287, 1, none⟩ (.int .u64 t283)).setCell ⟨gb287, 2, none⟩ (.int .u64 t284)).setCell ⟨gb287, 3, none⟩ (.int .u64 t285)).heap[gb263]? = some (.cells #[.int .u64 t260, .int .u64 t261] 25 (0, 0))) := ⟨by (with_reducible repeat (first | refine blk_drewN ?_ _ | refine blk_drew ?_ | refine blk_alloc ?_ _)); refine blk_far ?_ NB263_287.out _; (with_reducible repeat (first | refine blk_drewN ?_ _ | refine blk_drew ?_ | refine blk_alloc ?_ _)); refine blk_far ?_ NB263_287.out _; (with_reducible repeat (first | refine blk_drewN ?_ _ | refine blk_drew ?_ | refine blk_alloc ?_ _)); refine blk_far ?_ NB263_287.out _; (with_reducible repeat (first | refine blk_drewN ?_ _ | refine blk_drew ?_ | refine blk_alloc ?_ _)); refine blk_far ?_ NB263_287.out _; (with_reducible repeat (first | refine blk_drewN ?_ _ | refine blk_drew ?_ | refine blk_alloc ?_ _)); exact BK263.out⟩
          have n4_ : Aside0 (((((w59.setCell ⟨gb287, 0, none⟩ (.int .u64 t282)).setCell ⟨gb287, 1, none⟩ (.int .u64 t283)).setCell ⟨gb287, 2, none⟩ (.int .u64 t284)).setCell ⟨gb287, 3, none⟩ (.int .u64 t285)).heap[gb269]? = some (.cells #[.int .u64 t264, .int .u64 t265, .int .u64 t266, .int .u64 t267] 27 (0, 0))) := ⟨by (with_reducible repeat (first | refine blk_drewN ?_ _ | refine blk_drew ?_ | refine blk_alloc ?_ _)); refine blk_far ?_ NB269_287.out _; (with_reducible repeat (first | refine blk_drewN ?_ _ | refine blk_drew ?_ | refine blk_alloc ?_ _)); refine blk_far ?_ NB269_287.out _; (with_reducible repeat (first | refine blk_drewN ?_ _ | refine blk_drew ?_ | refine blk_alloc ?_ _)); refine blk_far ?_ NB269_287.out _; (with_reducible repeat (first | refine blk_drewN ?_ _ | refine blk_drew ?_ | refine blk_alloc ?_ _)); refine blk_far ?_ NB269_287.out _; (with_reducible repeat (first | refine blk_drewN ?_ _ | refine blk_drew ?_ | refine blk_alloc ?_ _)); exact BK269.out⟩
          have n5_ : Aside0 (((((w59.setCell ⟨gb287, 0, none⟩ (.int .u64 t282)).setCell ⟨gb287, 1, none⟩ (.int .u64 t283)).setCell ⟨gb287, 2, none⟩ (.int .u64 t284)).setCell ⟨gb287, 3, none⟩ (.int .u64 t285)).heap[gb275]? = some (.cells #[.int .u64 t270, .int .u64 t271, .int .u64 t272, .int .u64 t273] 27 (0, 0))) := ⟨by (with_reducible repeat (first | refine blk_drewN ?_ _ | refine blk_drew ?_ | refine blk_alloc ?_ _)); refine blk_far ?_ NB275_287.out _; (with_reducible repeat (first | refine blk_drewN ?_ _ | refine blk_drew ?_ | refine blk_alloc ?_ _)); refine blk_far ?_ NB275_287.out _; (with_reducible repeat (first | refine blk_drewN ?_ _ | refine blk_drew ?_ | refine blk_alloc ?_ _)); refine blk_far ?_ NB275_287.out _; (with_reducible repeat (first | refine blk_drewN ?_ _ | refine blk_drew ?_ | refine blk_alloc ?_ _)); refine blk_far ?_ NB275_287.out _; (with_reducible repeat (first | refine blk_drewN ?_ _ | refine blk_drew ?_ | refine blk_alloc ?_ _)); exact BK275.out⟩
          have n6_ : Aside0 (((((w59.setCell ⟨gb287, 0, none⟩ (.int .u64 t282)).setCell ⟨gb287, 1, none⟩ (.int .u64 t283)).setCell ⟨gb287, 2, none⟩ (.int .u64 t284)).setCell ⟨gb287, 3, none⟩ (.int .u64 t285)).heap[gb281]? = some (.cells #[.int .u64 t276, .int .u64 t277, .int .u64 t278, .int .u64 t279] 27 (0, 0))) := ⟨by (with_reducible repeat (first | refine blk_drewN ?_ _ | refine blk_drew ?_ | refine blk_alloc ?_ _)); refine blk_far ?_ NB281_287.out _; (with_reducible repeat (first | refine blk_drewN ?_ _ | refine blk_drew ?_ | refine blk_alloc ?_ _)); refine blk_far ?_ NB281_287.out _; (with_reducible repeat (first | refine blk_drewN ?_ _ | refine blk_drew ?_ | refine blk_alloc ?_ _)); refine blk_far ?_ NB281_287.out _; (with_reducible repeat (first | refine blk_drewN ?_ _ | refine blk_drew ?_ | refine blk_alloc ?_ _)); refine blk_far ?_ NB281_287.out _; (with_reducible repeat (first | refine blk_drewN ?_ _ | refine blk_drew ?_ | refine blk_alloc ?_ _)); exact BK281.out⟩
          have n7_ : Aside0 (((((w59.setCell ⟨gb287, 0, none⟩ (.int .u64 t282)).setCell ⟨gb287, 1, none⟩ (.int .u64 t283)).setCell ⟨gb287, 2, none⟩ (.int .u64 t284)).setCell ⟨gb287, 3, none⟩ (.int .u64 t285)).heap[gb287]? = some (.cells #[.int .u64 t282, .int .u64 t283, .int .u64 t284, .int .u64 t285] 27 (0, 0))) := ⟨by (with_reducible repeat (first | refine blk_drewN ?_ _ | refine blk_drew ?_ | refine blk_alloc ?_ _)); refine blk_put (cs := #[.int .u64 t282, .int .u64 t283, .int .u64 t284, .int .u64 0]) ?_ 3 _ rfl; (with_reducible repeat (first | refine blk_drewN ?_ _ | refine blk_drew ?_ | refine blk_alloc ?_ _)); refine blk_put (cs := #[.int .u64 t282, .int .u64 t283, .int .u64 0, .int .u64 0]) ?_ 2 _ rfl; (with_reducible repeat (first | refine blk_drewN ?_ _ | refine blk_drew ?_ | refine blk_alloc ?_ _)); refine blk_put (cs := #[.int .u64 t282, .int .u64 0, .int .u64 0, .int .u64 0]) ?_ 1 _ rfl; (with_reducible repeat (first | refine blk_drewN ?_ _ | refine blk_drew ?_ | refine blk_alloc ?_ _)); refine blk_put (cs := #[.int .u64 0, .int .u64 0, .int .u64 0, .int .u64 0]) ?_ 0 _ rfl; (with_reducible repeat (first | refine blk_drewN ?_ _ | refine blk_drew ?_ | refine blk_alloc ?_ _)); exact BK287.out⟩
          have n8_ : Aside0 (Below w.heap.size w ((((w59.setCell ⟨gb287, 0, none⟩ (.int .u64 t282)).setCell ⟨gb287, 1, none⟩ (.int .u64 t283)).setCell ⟨gb287, 2, none⟩ (.int .u64 t284)).setCell ⟨gb287, 3, none⟩ (.int .u64 t285))) := ⟨by repeat (first | (with_reducible first | exact HB.out | apply below_alloc | apply pw_below_drewN | apply below_drew1 | refine below_set ?_ GE253.out | refine below_set ?_ GE254.out | refine below_set ?_ GE259.out | refine below_set ?_ GE263.out | refine below_set ?_ GE269.out | refine below_set ?_ GE275.out | refine below_set ?_ GE281.out | refine below_set ?_ GE287.out) | exact HB.out)⟩
          (try clear BK253)
          (try clear BK254)
          (try clear BK259)
          (try clear BK263)
          (try clear BK269)
          (try clear BK275)
          (try clear BK281)
          (try clear BK287)
          (try clear HB)
          generalize ((((w59.setCell ⟨gb287, 0, none⟩ (.int .u64 t282)).setCell ⟨gb287, 1, none⟩ (.int .u64 t283)).setCell ⟨gb287, 2, none⟩ (.int .u64 t284)).setCell ⟨gb287, 3, none⟩ (.int .u64 t285)) = w81 at n0_ n1_ n2_ n3_ n4_ n5_ n6_ n7_ n8_ ⊢
          have BK253 := n0_
          have BK254 := n1_
          have BK259 := n2_
          have BK263 := n3_
          have BK269 := n4_
          have BK275 := n5_
          have BK281 := n6_
          have BK287 := n7_
          have HB := n8_
          clear n0_ n1_ n2_ n3_ n4_ n5_ n6_ n7_ n8_
          have n0_ := Aside0.mk (blk_drew BK253.out)
          have n1_ := Aside0.mk (blk_drew BK254.out)
          have n2_ := Aside0.mk (blk_drew BK259.out)
          have n3_ := Aside0.mk (blk_drew BK263.out)
          have n4_ := Aside0.mk (blk_drew BK269.out)
          have n5_ := Aside0.mk (blk_drew BK275.out)
          have n6_ := Aside0.mk (blk_drew BK281.out)
          have n7_ := Aside0.mk (blk_drew BK287.out)
          have n8_ := Aside0.mk (below_drew1 HB.out)
          clear BK253
          clear BK254
          clear BK259
          clear BK263
          clear BK269
          clear BK275
          clear BK281
          clear BK287
          clear HB
          have BK253 := n0_
          have BK254 := n1_
          have BK259 := n2_
          have BK263 := n3_
          have BK269 := n4_
          have BK275 := n5_
          have BK281 := n6_
          have BK287 := n7_
          have HB := n8_
          clear n0_ n1_ n2_ n3_ n4_ n5_ n6_ n7_ n8_
          refine start_ (n := 25) (S := fun w' => w'.cell? ⟨gb253, 0, none⟩ = some (.int .u64 a0_0) ∧ w'.cell? ⟨gb253, 1, none⟩ = some (.int .u64 a0_1) ∧ w'.cell? ⟨gb259, 0, none⟩ = some (.int .u64 t256) ∧ w'.cell? ⟨gb259, 1, none⟩ = some (.int .u64 t257) ∧ w'.cell? ⟨gb263, 0, none⟩ = some (.int .u64 t260) ∧ w'.cell? ⟨gb263, 1, none⟩ = some (.int .u64 t261)) (ds := []) #[false, false, false, false, false, false, false, false, false, false, false, false, false, false, false, false, false, false, false, false, false, false, false, false, false] (by kernel_rfl) rfl rfl ⟨(blk_cell BK253.out 0).trans rfl, (blk_cell BK253.out 1).trans rfl, (blk_cell BK259.out 0).trans rfl, (blk_cell BK259.out 1).trans rfl, (blk_cell BK263.out 0).trans rfl, (blk_cell BK263.out 1).trans rfl⟩ (fun hHeld => ?_); refine with_tabW wigwaglaw19_CreditTells.tab8 wigwaglaw19_CreditTells.bits8 (fun HT_ HW_ => ?_)
          generalize w81.drew = w82 at BK253 BK254 BK259 BK263 BK269 BK275 BK281 BK287 HB hHeld ⊢
          refine take_ (i := 0) (N := some 60) (v := ?_) (a' := ?_) #[true, false, false, false, false, false, false, false, false, false, false, false, false, false, false, false, false, false, false, false, false, false, false, false, false] rfl rfl (take_ofW HT_.out HW_.out (by kernel_rfl)) (fun _ _ _ h => h) (Or.inl ⟨by rfl, ?_⟩) hHeld ?_ ?_
          rotate_left
          · rintro w' ⟨s0, s1, s2, s3, s4, s5⟩
            go_simp
            with_reducible rfl
          rotate_left
          · simp only [Act.put, List.setIfInBounds_toArray, List.set_cons_zero, List.set_cons_succ, i64_w, i32_w]
            rfl
          refine take_ (i := 2) (N := some 62) (v := ?_) (a' := ?_) #[true, false, true, false, false, false, false, false, false, false, false, false, false, false, false, false, false, false, false, false, false, false, false, false, false] rfl rfl (take_ofW HT_.out HW_.out (by kernel_rfl)) (fun _ _ _ h => h) (Or.inl ⟨by rfl, ?_⟩) hHeld ?_ ?_
          rotate_left
          · rintro w' ⟨s0, s1, s2, s3, s4, s5⟩
            go_simp
            with_reducible rfl
          rotate_left
          · simp only [Act.put, List.setIfInBounds_toArray, List.set_cons_zero, List.set_cons_succ, i64_w, i32_w]
            rfl
          refine one_ (i := 1) (N := some 61) #[true, true, true, false, false, false, false, false, false, false, false, false, false, false, false, false, false, false, false, false, false, false, false, false, false] rfl rfl (one_of HT_.out (by kernel_rfl)) (by decide) (fun K hK => ?_)
          refine goes_ Try.func16 (by kernel_rfl) rfl #[.agg #[.int .u64 a0_0, .int .u64 a0_1]] (by rfl) rfl rfl (by (try simp only [List.map_toArray, List.map_cons, List.map_nil]); first | done | rfl | (simp only [List.length_drop, List.length_take]; rfl)) ?_
          with_reducible refine (credit_Left.calls a0_0 a0_1 t288 _ A68.out).mono ?_
          rintro e w83 ⟨rfl, hb⟩
          refine ⟨_, rfl, ?_⟩
          have n0_ := Aside0.mk (blk_below (g := gb253) (o := .cells #[.int .u64 a0_0, .int .u64 a0_1] 25 (0, 0)) (by (with_reducible repeat (first | refine blk_drewN ?_ _ | refine blk_drew ?_ | refine blk_alloc ?_ _)); exact BK253.out) hb)
          have n1_ := Aside0.mk (blk_below (g := gb254) (o := .cells #[.int .u64 a1_0, .int .u64 a1_1, .int .u64 a1_2, .int .u64 a1_3] 27 (0, 0)) (by (with_reducible repeat (first | refine blk_drewN ?_ _ | refine blk_drew ?_ | refine blk_alloc ?_ _)); exact BK254.out) hb)
          have n2_ := Aside0.mk (blk_below (g := gb259) (o := .cells #[.int .u64 t256, .int .u64 t257] 25 (0, 0)) (by (with_reducible repeat (first | refine blk_drewN ?_ _ | refine blk_drew ?_ | refine blk_alloc ?_ _)); exact BK259.out) hb)
          have n3_ := Aside0.mk (blk_below (g := gb263) (o := .cells #[.int .u64 t260, .int .u64 t261] 25 (0, 0)) (by (with_reducible repeat (first | refine blk_drewN ?_ _ | refine blk_drew ?_ | refine blk_alloc ?_ _)); exact BK263.out) hb)
          have n4_ := Aside0.mk (blk_below (g := gb269) (o := .cells #[.int .u64 t264, .int .u64 t265, .int .u64 t266, .int .u64 t267] 27 (0, 0)) (by (with_reducible repeat (first | refine blk_drewN ?_ _ | refine blk_drew ?_ | refine blk_alloc ?_ _)); exact BK269.out) hb)
          have n5_ := Aside0.mk (blk_below (g := gb275) (o := .cells #[.int .u64 t270, .int .u64 t271, .int .u64 t272, .int .u64 t273] 27 (0, 0)) (by (with_reducible repeat (first | refine blk_drewN ?_ _ | refine blk_drew ?_ | refine blk_alloc ?_ _)); exact BK275.out) hb)
          have n6_ := Aside0.mk (blk_below (g := gb281) (o := .cells #[.int .u64 t276, .int .u64 t277, .int .u64 t278, .int .u64 t279] 27 (0, 0)) (by (with_reducible repeat (first | refine blk_drewN ?_ _ | refine blk_drew ?_ | refine blk_alloc ?_ _)); exact BK281.out) hb)
          have n7_ := Aside0.mk (blk_below (g := gb287) (o := .cells #[.int .u64 t282, .int .u64 t283, .int .u64 t284, .int .u64 t285] 27 (0, 0)) (by (with_reducible repeat (first | refine blk_drewN ?_ _ | refine blk_drew ?_ | refine blk_alloc ?_ _)); exact BK287.out) hb)
          have n8_ := Aside0.mk (below_step (by repeat (first | (with_reducible first | exact HB.out | apply below_alloc | apply pw_below_drewN | apply below_drew1 | refine below_set ?_ GE253.out | refine below_set ?_ GE254.out | refine below_set ?_ GE259.out | refine below_set ?_ GE263.out | refine below_set ?_ GE269.out | refine below_set ?_ GE275.out | refine below_set ?_ GE281.out | refine below_set ?_ GE287.out) | exact HB.out)) hb)
          clear BK253
          clear BK254
          clear BK259
          clear BK263
          clear BK269
          clear BK275
          clear BK281
          clear BK287
          clear HB
          have BK253 := n0_
          have BK254 := n1_
          have BK259 := n2_
          have BK263 := n3_
          have BK269 := n4_
          have BK275 := n5_
          have BK281 := n6_
          have BK287 := n7_
          have HB := n8_
          clear n0_ n1_ n2_ n3_ n4_ n5_ n6_ n7_ n8_
          (try clear hb)
          (try clear hb2)
          (try clear hk)
          (try clear hi)
          refine hK.out _ _ ⟨(blk_cell BK253.out 0).trans rfl, (blk_cell BK253.out 1).trans rfl, (blk_cell BK259.out 0).trans rfl, (blk_cell BK259.out 1).trans rfl, (blk_cell BK263.out 0).trans rfl, (blk_cell BK263.out 1).trans rfl⟩ (fun hHeld => ?_)
          clear hK K
          refine norm_ (a' := ?_) ?_ ?_
          rotate_left
          · show Act.put _ (some 61) _ = _
            simp only [Act.put, List.setIfInBounds_toArray, List.set_cons_zero, List.set_cons_succ, i64_w, i32_w]
            rfl
          refine one_ (i := 3) (N := some 63) #[true, true, true, true, false, false, false, false, false, false, false, false, false, false, false, false, false, false, false, false, false, false, false, false, false] rfl rfl (one_of HT_.out (by kernel_rfl)) (by decide) (fun K hK => ?_)
          refine goes_ Try.func17 (by kernel_rfl) rfl #[.agg #[.int .u64 a0_0, .int .u64 a0_1]] (by rfl) rfl rfl (by (try simp only [List.map_toArray, List.map_cons, List.map_nil]); first | done | rfl | (simp only [List.length_drop, List.length_take]; rfl)) ?_
          with_reducible refine (wigwagref19_Left.calls a0_0 a0_1 t289 _ A69.out).mono ?_
          rintro e w84 ⟨rfl, hb⟩
          refine ⟨_, rfl, ?_⟩
          have n0_ := Aside0.mk (blk_below (g := gb253) (o := .cells #[.int .u64 a0_0, .int .u64 a0_1] 25 (0, 0)) (by (with_reducible repeat (first | refine blk_drewN ?_ _ | refine blk_drew ?_ | refine blk_alloc ?_ _)); exact BK253.out) hb)
          have n1_ := Aside0.mk (blk_below (g := gb254) (o := .cells #[.int .u64 a1_0, .int .u64 a1_1, .int .u64 a1_2, .int .u64 a1_3] 27 (0, 0)) (by (with_reducible repeat (first | refine blk_drewN ?_ _ | refine blk_drew ?_ | refine blk_alloc ?_ _)); exact BK254.out) hb)
          have n2_ := Aside0.mk (blk_below (g := gb259) (o := .cells #[.int .u64 t256, .int .u64 t257] 25 (0, 0)) (by (with_reducible repeat (first | refine blk_drewN ?_ _ | refine blk_drew ?_ | refine blk_alloc ?_ _)); exact BK259.out) hb)
          have n3_ := Aside0.mk (blk_below (g := gb263) (o := .cells #[.int .u64 t260, .int .u64 t261] 25 (0, 0)) (by (with_reducible repeat (first | refine blk_drewN ?_ _ | refine blk_drew ?_ | refine blk_alloc ?_ _)); exact BK263.out) hb)
          have n4_ := Aside0.mk (blk_below (g := gb269) (o := .cells #[.int .u64 t264, .int .u64 t265, .int .u64 t266, .int .u64 t267] 27 (0, 0)) (by (with_reducible repeat (first | refine blk_drewN ?_ _ | refine blk_drew ?_ | refine blk_alloc ?_ _)); exact BK269.out) hb)
          have n5_ := Aside0.mk (blk_below (g := gb275) (o := .cells #[.int .u64 t270, .int .u64 t271, .int .u64 t272, .int .u64 t273] 27 (0, 0)) (by (with_reducible repeat (first | refine blk_drewN ?_ _ | refine blk_drew ?_ | refine blk_alloc ?_ _)); exact BK275.out) hb)
          have n6_ := Aside0.mk (blk_below (g := gb281) (o := .cells #[.int .u64 t276, .int .u64 t277, .int .u64 t278, .int .u64 t279] 27 (0, 0)) (by (with_reducible repeat (first | refine blk_drewN ?_ _ | refine blk_drew ?_ | refine blk_alloc ?_ _)); exact BK281.out) hb)
          have n7_ := Aside0.mk (blk_below (g := gb287) (o := .cells #[.int .u64 t282, .int .u64 t283, .int .u64 t284, .int .u64 t285] 27 (0, 0)) (by (with_reducible repeat (first | refine blk_drewN ?_ _ | refine blk_drew ?_ | refine blk_alloc ?_ _)); exact BK287.out) hb)
          have n8_ := Aside0.mk (below_step (by repeat (first | (with_reducible first | exact HB.out | apply below_alloc | apply pw_below_drewN | apply below_drew1 | refine below_set ?_ GE253.out | refine below_set ?_ GE254.out | refine below_set ?_ GE259.out | refine below_set ?_ GE263.out | refine below_set ?_ GE269.out | refine below_set ?_ GE275.out | refine below_set ?_ GE281.out | refine below_set ?_ GE287.out) | exact HB.out)) hb)
          clear BK253
          clear BK254
          clear BK259
          clear BK263
          clear BK269
          clear BK275
          clear BK281
          clear BK287
          clear HB
          have BK253 := n0_
          have BK254 := n1_
          have BK259 := n2_
          have BK263 := n3_
          have BK269 := n4_
          have BK275 := n5_
          have BK281 := n6_
          have BK287 := n7_
          have HB := n8_
          clear n0_ n1_ n2_ n3_ n4_ n5_ n6_ n7_ n8_
          (try clear hb)
          (try clear hb2)
          (try clear hk)
          (try clear hi)
          refine hK.out _ _ ⟨(blk_cell BK253.out 0).trans rfl, (blk_cell BK253.out 1).trans rfl, (blk_cell BK259.out 0).trans rfl, (blk_cell BK259.out 1).trans rfl, (blk_cell BK263.out 0).trans rfl, (blk_cell BK263.out 1).trans rfl⟩ (fun hHeld => ?_)
          clear hK K
          refine norm_ (a' := ?_) ?_ ?_
          rotate_left
          · show Act.put _ (some 63) _ = _
            simp only [Act.put, List.setIfInBounds_toArray, List.set_cons_zero, List.set_cons_succ, i64_w, i32_w]
            rfl
          refine pure_ (i := 4) (N := some 64) (v := ?_) (a' := ?_) #[true, true, true, true, true, false, false, false, false, false, false, false, false, false, false, false, false, false, false, false, false, false, false, false, false] rfl rfl (any_of HT_.out (by kernel_rfl)) (fun _ _ _ h => h) (Or.inl ⟨by rfl, ?_⟩) ?_ ?_
          rotate_left
          · intro w'
            go_simp
            with_reducible rfl
          rotate_left
          · simp only [Act.put, List.setIfInBounds_toArray, List.set_cons_zero, List.set_cons_succ, i64_w, i32_w]
            rfl
          refine pure_ (i := 5) (N := some 65) (v := ?_) (a' := ?_) #[true, true, true, true, true, true, false, false, false, false, false, false, false, false, false, false, false, false, false, false, false, false, false, false, false] rfl rfl (any_of HT_.out (by kernel_rfl)) (fun _ _ _ h => h) (Or.inl ⟨by rfl, ?_⟩) ?_ ?_
          rotate_left
          · intro w'
            go_simp
            with_reducible rfl
          rotate_left
          · simp only [Act.put, List.setIfInBounds_toArray, List.set_cons_zero, List.set_cons_succ, i64_w, i32_w]
            rfl
          refine take_ (i := 6) (N := some 66) (v := ?_) (a' := ?_) #[true, true, true, true, true, true, true, false, false, false, false, false, false, false, false, false, false, false, false, false, false, false, false, false, false] rfl rfl (take_ofW HT_.out HW_.out (by kernel_rfl)) (fun _ _ _ h => h) (Or.inl ⟨by rfl, ?_⟩) hHeld ?_ ?_
          rotate_left
          · rintro w' ⟨s0, s1, s2, s3, s4, s5⟩
            go_simp
            with_reducible rfl
          rotate_left
          · simp only [Act.put, List.setIfInBounds_toArray, List.set_cons_zero, List.set_cons_succ, i64_w, i32_w]
            rfl
          refine take_ (i := 7) (N := some 67) (v := ?_) (a' := ?_) #[true, true, true, true, true, true, true, true, false, false, false, false, false, false, false, false, false, false, false, false, false, false, false, false, false] rfl rfl (take_ofW HT_.out HW_.out (by kernel_rfl)) (fun _ _ _ h => h) (Or.inl ⟨by rfl, ?_⟩) hHeld ?_ ?_
          rotate_left
          · rintro w' ⟨s0, s1, s2, s3, s4, s5⟩
            go_simp
            with_reducible rfl
          rotate_left
          · simp only [Act.put, List.setIfInBounds_toArray, List.set_cons_zero, List.set_cons_succ, i64_w, i32_w]
            rfl
          refine pure_ (i := 8) (N := some 68) (v := ?_) (a' := ?_) #[true, true, true, true, true, true, true, true, true, false, false, false, false, false, false, false, false, false, false, false, false, false, false, false, false] rfl rfl (any_of HT_.out (by kernel_rfl)) (fun _ _ _ h => h) (Or.inl ⟨by rfl, ?_⟩) ?_ ?_
          rotate_left
          · intro w'
            go_simp
            with_reducible rfl
          rotate_left
          · simp only [Act.put, List.setIfInBounds_toArray, List.set_cons_zero, List.set_cons_succ, i64_w, i32_w]
            rfl
          refine pure_ (i := 9) (N := some 69) (v := ?_) (a' := ?_) #[true, true, true, true, true, true, true, true, true, true, false, false, false, false, false, false, false, false, false, false, false, false, false, false, false] rfl rfl (any_of HT_.out (by kernel_rfl)) (fun _ _ _ h => h) (Or.inl ⟨by rfl, ?_⟩) ?_ ?_
          rotate_left
          · intro w'
            go_simp
            with_reducible rfl
          rotate_left
          · simp only [Act.put, List.setIfInBounds_toArray, List.set_cons_zero, List.set_cons_succ, i64_w, i32_w]
            rfl
          refine pure_ (i := 10) (N := some 70) (v := ?_) (a' := ?_) #[true, true, true, true, true, true, true, true, true, true, true, false, false, false, false, false, false, false, false, false, false, false, false, false, false] rfl rfl (any_of HT_.out (by kernel_rfl)) (fun _ _ _ h => h) (Or.inl ⟨by rfl, ?_⟩) ?_ ?_
          rotate_left
          · intro w'
            go_simp
            with_reducible rfl
          rotate_left
          · simp only [Act.put, List.setIfInBounds_toArray, List.set_cons_zero, List.set_cons_succ, i64_w, i32_w]
            rfl
          refine pure_ (i := 11) (N := some 71) (v := ?_) (a' := ?_) #[true, true, true, true, true, true, true, true, true, true, true, true, false, false, false, false, false, false, false, false, false, false, false, false, false] rfl rfl (any_of HT_.out (by kernel_rfl)) (fun _ _ _ h => h) (Or.inl ⟨by rfl, ?_⟩) ?_ ?_
          rotate_left
          · intro w'
            go_simp
            with_reducible rfl
          rotate_left
          · simp only [Act.put, List.setIfInBounds_toArray, List.set_cons_zero, List.set_cons_succ, i64_w, i32_w]
            rfl
          refine pure_ (i := 12) (N := some 72) (v := ?_) (a' := ?_) #[true, true, true, true, true, true, true, true, true, true, true, true, true, false, false, false, false, false, false, false, false, false, false, false, false] rfl rfl (any_of HT_.out (by kernel_rfl)) (fun _ _ _ h => h) (Or.inl ⟨by rfl, ?_⟩) ?_ ?_
          rotate_left
          · intro w'
            go_simp
            with_reducible rfl
          rotate_left
          · simp only [Act.put, List.setIfInBounds_toArray, List.set_cons_zero, List.set_cons_succ, i64_w, i32_w]
            rfl
          refine pure_ (i := 13) (N := some 73) (v := ?_) (a' := ?_) #[true, true, true, true, true, true, true, true, true, true, true, true, true, true, false, false, false, false, false, false, false, false, false, false, false] rfl rfl (any_of HT_.out (by kernel_rfl)) (fun _ _ _ h => h) (Or.inl ⟨by rfl, ?_⟩) ?_ ?_
          rotate_left
          · intro w'
            go_simp
            with_reducible rfl
          rotate_left
          · simp only [Act.put, List.setIfInBounds_toArray, List.set_cons_zero, List.set_cons_succ, i64_w, i32_w]
            rfl
          refine pure_ (i := 14) (N := some 74) (v := ?_) (a' := ?_) #[true, true, true, true, true, true, true, true, true, true, true, true, true, true, true, false, false, false, false, false, false, false, false, false, false] rfl rfl (any_of HT_.out (by kernel_rfl)) (fun _ _ _ h => h) (Or.inl ⟨by rfl, ?_⟩) ?_ ?_
          rotate_left
          · intro w'
            go_simp
            with_reducible rfl
          rotate_left
          · simp only [Act.put, List.setIfInBounds_toArray, List.set_cons_zero, List.set_cons_succ, i64_w, i32_w]
            rfl
          refine pure_ (i := 15) (N := some 75) (v := ?_) (a' := ?_) #[true, true, true, true, true, true, true, true, true, true, true, true, true, true, true, true, false, false, false, false, false, false, false, false, false] rfl rfl (any_of HT_.out (by kernel_rfl)) (fun _ _ _ h => h) (Or.inl ⟨by rfl, ?_⟩) ?_ ?_
          rotate_left
          · intro w'
            go_simp
            with_reducible rfl
          rotate_left
          · simp only [Act.put, List.setIfInBounds_toArray, List.set_cons_zero, List.set_cons_succ, i64_w, i32_w]
            rfl
          refine pure_ (i := 16) (N := some 76) (v := undef) (a' := ?_) #[true, true, true, true, true, true, true, true, true, true, true, true, true, true, true, true, true, false, false, false, false, false, false, false, false] rfl rfl (any_of HT_.out (by kernel_rfl)) (fun _ _ _ h => h) (Or.inr ⟨by rfl, rfl⟩) ?_ ?_
          rotate_left
          · simp only [Act.put, List.setIfInBounds_toArray, List.set_cons_zero, List.set_cons_succ, i64_w, i32_w]
            rfl
          refine pure_ (i := 17) (N := some 77) (v := undef) (a' := ?_) #[true, true, true, true, true, true, true, true, true, true, true, true, true, true, true, true, true, true, false, false, false, false, false, false, false] rfl rfl (any_of HT_.out (by kernel_rfl)) (fun _ _ _ h => h) (Or.inr ⟨by rfl, rfl⟩) ?_ ?_
          rotate_left
          · simp only [Act.put, List.setIfInBounds_toArray, List.set_cons_zero, List.set_cons_succ, i64_w, i32_w]
            rfl
          refine pure_ (i := 18) (N := some 78) (v := undef) (a' := ?_) #[true, true, true, true, true, true, true, true, true, true, true, true, true, true, true, true, true, true, true, false, false, false, false, false, false] rfl rfl (any_of HT_.out (by kernel_rfl)) (fun _ _ _ h => h) (Or.inr ⟨by rfl, rfl⟩) ?_ ?_
          rotate_left
          · simp only [Act.put, List.setIfInBounds_toArray, List.set_cons_zero, List.set_cons_succ, i64_w, i32_w]
            rfl
          refine pure_ (i := 19) (N := some 79) (v := undef) (a' := ?_) #[true, true, true, true, true, true, true, true, true, true, true, true, true, true, true, true, true, true, true, true, false, false, false, false, false] rfl rfl (any_of HT_.out (by kernel_rfl)) (fun _ _ _ h => h) (Or.inr ⟨by rfl, rfl⟩) ?_ ?_
          rotate_left
          · simp only [Act.put, List.setIfInBounds_toArray, List.set_cons_zero, List.set_cons_succ, i64_w, i32_w]
            rfl
          refine pure_ (i := 20) (N := some 80) (v := undef) (a' := ?_) #[true, true, true, true, true, true, true, true, true, true, true, true, true, true, true, true, true, true, true, true, true, false, false, false, false] rfl rfl (any_of HT_.out (by kernel_rfl)) (fun _ _ _ h => h) (Or.inr ⟨by rfl, rfl⟩) ?_ ?_
          rotate_left
          · simp only [Act.put, List.setIfInBounds_toArray, List.set_cons_zero, List.set_cons_succ, i64_w, i32_w]
            rfl
          refine pure_ (i := 21) (N := some 81) (v := undef) (a' := ?_) #[true, true, true, true, true, true, true, true, true, true, true, true, true, true, true, true, true, true, true, true, true, true, false, false, false] rfl rfl (any_of HT_.out (by kernel_rfl)) (fun _ _ _ h => h) (Or.inr ⟨by rfl, rfl⟩) ?_ ?_
          rotate_left
          · simp only [Act.put, List.setIfInBounds_toArray, List.set_cons_zero, List.set_cons_succ, i64_w, i32_w]
            rfl
          refine pure_ (i := 22) (N := some 82) (v := undef) (a' := ?_) #[true, true, true, true, true, true, true, true, true, true, true, true, true, true, true, true, true, true, true, true, true, true, true, false, false] rfl rfl (any_of HT_.out (by kernel_rfl)) (fun _ _ _ h => h) (Or.inr ⟨by rfl, rfl⟩) ?_ ?_
          rotate_left
          · simp only [Act.put, List.setIfInBounds_toArray, List.set_cons_zero, List.set_cons_succ, i64_w, i32_w]
            rfl
          refine pure_ (i := 23) (N := some 83) (v := ?_) (a' := ?_) #[true, true, true, true, true, true, true, true, true, true, true, true, true, true, true, true, true, true, true, true, true, true, true, true, false] rfl rfl (any_of HT_.out (by kernel_rfl)) (fun _ _ _ h => h) (Or.inl ⟨by rfl, ?_⟩) ?_ ?_
          rotate_left
          · intro w'
            go_simp
            with_reducible rfl
          rotate_left
          · simp only [Act.put, List.setIfInBounds_toArray, List.set_cons_zero, List.set_cons_succ, i64_w, i32_w]
            rfl
          refine pure_ (i := 24) (N := some 22) (v := ?_) (a' := ?_) #[true, true, true, true, true, true, true, true, true, true, true, true, true, true, true, true, true, true, true, true, true, true, true, true, true] rfl rfl (any_of HT_.out (by kernel_rfl)) (fun _ _ _ h => h) (Or.inl ⟨by rfl, ?_⟩) ?_ ?_
          rotate_left
          · intro w'
            go_simp
            with_reducible rfl
          rotate_left
          · simp only [Act.put, List.setIfInBounds_toArray, List.set_cons_zero, List.set_cons_succ, i64_w, i32_w]
            rfl
          refine done_ (done_of HT_.out (by kernel_rfl)) ?_
          try go_wp2
          go_meet
          case rel => exact ⟨_, (false), (by first | rfl | (simp; done) | (simp [*]; done)), H', ⟨by first | omega | exact Nat.le_refl _⟩, ⟨by (with_reducible repeat (first | refine blk_drewN ?_ _ | refine blk_drew ?_ | refine blk_alloc ?_ _)); exact BK253.out⟩, ⟨by (with_reducible repeat (first | refine blk_drewN ?_ _ | refine blk_drew ?_ | refine blk_alloc ?_ _)); exact BK254.out⟩, ⟨by (with_reducible repeat (first | refine blk_drewN ?_ _ | refine blk_drew ?_ | refine blk_alloc ?_ _)); exact BK259.out⟩, ⟨by (with_reducible repeat (first | refine blk_drewN ?_ _ | refine blk_drew ?_ | refine blk_alloc ?_ _)); exact BK263.out⟩, ⟨by (with_reducible repeat (first | refine blk_drewN ?_ _ | refine blk_drew ?_ | refine blk_alloc ?_ _)); exact BK269.out⟩, ⟨by (with_reducible repeat (first | refine blk_drewN ?_ _ | refine blk_drew ?_ | refine blk_alloc ?_ _)); exact BK275.out⟩, ⟨by (with_reducible repeat (first | refine blk_drewN ?_ _ | refine blk_drew ?_ | refine blk_alloc ?_ _)); exact BK281.out⟩, ⟨by (with_reducible repeat (first | refine blk_drewN ?_ _ | refine blk_drew ?_ | refine blk_alloc ?_ _)); exact BK287.out⟩, ⟨by repeat (first | (with_reducible first | exact HB.out | apply below_alloc | apply pw_below_drewN | apply below_drew1 | refine below_set ?_ GE253.out | refine below_set ?_ GE254.out | refine below_set ?_ GE259.out | refine below_set ?_ GE263.out | refine below_set ?_ GE269.out | refine below_set ?_ GE275.out | refine below_set ?_ GE281.out | refine below_set ?_ GE287.out) | exact HB.out)⟩⟩
      · rw [if_neg c71] at H
        have c71b0 : (t256 == t260 && (t257 == t261)) = false := by simpa using c71
        (try (have c71b1 : decide (t256 = t260 && (t257 == t261)) = false := by simpa using c71))
        (try (have c71b2 : (t256 == t260 && (t257 == t261)) = false := by simpa using c71))
        (try (have c71b3 : ¬ (t256 = t260 && (t257 == t261)) := by simpa using c71))
        clear c71
        have H' := Aside0.mk H
        clear H
        try go_wp2
        have n0_ : Aside0 (((((w59.setCell ⟨gb287, 0, none⟩ (.int .u64 t282)).setCell ⟨gb287, 1, none⟩ (.int .u64 t283)).setCell ⟨gb287, 2, none⟩ (.int .u64 t284)).setCell ⟨gb287, 3, none⟩ (.int .u64 t285)).heap[gb253]? = some (.cells #[.int .u64 a0_0, .int .u64 a0_1] 25 (0, 0))) := ⟨by (with_reducible repeat (first | refine blk_drewN ?_ _ | refine blk_drew ?_ | refine blk_alloc ?_ _)); refine blk_far ?_ NB253_287.out _; (with_reducible repeat (first | refine blk_drewN ?_ _ | refine blk_drew ?_ | refine blk_alloc ?_ _)); refine blk_far ?_ NB253_287.out _; (with_reducible repeat (first | refine blk_drewN ?_ _ | refine blk_drew ?_ | refine blk_alloc ?_ _)); refine blk_far ?_ NB253_287.out _; (with_reducible repeat (first | refine blk_drewN ?_ _ | refine blk_drew ?_ | refine blk_alloc ?_ _)); refine blk_far ?_ NB253_287.out _; (with_reducible repeat (first | refine blk_drewN ?_ _ | refine blk_drew ?_ | refine blk_alloc ?_ _)); exact BK253.out⟩
        have n1_ : Aside0 (((((w59.setCell ⟨gb287, 0, none⟩ (.int .u64 t282)).setCell ⟨gb287, 1, none⟩ (.int .u64 t283)).setCell ⟨gb287, 2, none⟩ (.int .u64 t284)).setCell ⟨gb287, 3, none⟩ (.int .u64 t285)).heap[gb254]? = some (.cells #[.int .u64 a1_0, .int .u64 a1_1, .int .u64 a1_2, .int .u64 a1_3] 27 (0, 0))) := ⟨by (with_reducible repeat (first | refine blk_drewN ?_ _ | refine blk_drew ?_ | refine blk_alloc ?_ _)); refine blk_far ?_ NB254_287.out _; (with_reducible repeat (first | refine blk_drewN ?_ _ | refine blk_drew ?_ | refine blk_alloc ?_ _)); refine blk_far ?_ NB254_287.out _; (with_reducible repeat (first | refine blk_drewN ?_ _ | refine blk_drew ?_ | refine blk_alloc ?_ _)); refine blk_far ?_ NB254_287.out _; (with_reducible repeat (first | refine blk_drewN ?_ _ | refine blk_drew ?_ | refine blk_alloc ?_ _)); refine blk_far ?_ NB254_287.out _; (with_reducible repeat (first | refine blk_drewN ?_ _ | refine blk_drew ?_ | refine blk_alloc ?_ _)); exact BK254.out⟩
        have n2_ : Aside0 (((((w59.setCell ⟨gb287, 0, none⟩ (.int .u64 t282)).setCell ⟨gb287, 1, none⟩ (.int .u64 t283)).setCell ⟨gb287, 2, none⟩ (.int .u64 t284)).setCell ⟨gb287, 3, none⟩ (.int .u64 t285)).heap[gb259]? = some (.cells #[.int .u64 t256, .int .u64 t257] 25 (0, 0))) := ⟨by (with_reducible repeat (first | refine blk_drewN ?_ _ | refine blk_drew ?_ | refine blk_alloc ?_ _)); refine blk_far ?_ NB259_287.out _; (with_reducible repeat (first | refine blk_drewN ?_ _ | refine blk_drew ?_ | refine blk_alloc ?_ _)); refine blk_far ?_ NB259_287.out _; (with_reducible repeat (first | refine blk_drewN ?_ _ | refine blk_drew ?_ | refine blk_alloc ?_ _)); refine blk_far ?_ NB259_287.out _; (with_reducible repeat (first | refine blk_drewN ?_ _ | refine blk_drew ?_ | refine blk_alloc ?_ _)); refine blk_far ?_ NB259_287.out _; (with_reducible repeat (first | refine blk_drewN ?_ _ | refine blk_drew ?_ | refine blk_alloc ?_ _)); exact BK259.out⟩
        have n3_ : Aside0 (((((w59.setCell ⟨gb287, 0, none⟩ (.int .u64 t282)).setCell ⟨gb287, 1, none⟩ (.int .u64 t283)).setCell ⟨gb287, 2, none⟩ (.int .u64 t284)).setCell ⟨gb287, 3, none⟩ (.int .u64 t285)).heap[gb263]? = some (.cells #[.int .u64 t260, .int .u64 t261] 25 (0, 0))) := ⟨by (with_reducible repeat (first | refine blk_drewN ?_ _ | refine blk_drew ?_ | refine blk_alloc ?_ _)); refine blk_far ?_ NB263_287.out _; (with_reducible repeat (first | refine blk_drewN ?_ _ | refine blk_drew ?_ | refine blk_alloc ?_ _)); refine blk_far ?_ NB263_287.out _; (with_reducible repeat (first | refine blk_drewN ?_ _ | refine blk_drew ?_ | refine blk_alloc ?_ _)); refine blk_far ?_ NB263_287.out _; (with_reducible repeat (first | refine blk_drewN ?_ _ | refine blk_drew ?_ | refine blk_alloc ?_ _)); refine blk_far ?_ NB263_287.out _; (with_reducible repeat (first | refine blk_drewN ?_ _ | refine blk_drew ?_ | refine blk_alloc ?_ _)); exact BK263.out⟩
        have n4_ : Aside0 (((((w59.setCell ⟨gb287, 0, none⟩ (.int .u64 t282)).setCell ⟨gb287, 1, none⟩ (.int .u64 t283)).setCell ⟨gb287, 2, none⟩ (.int .u64 t284)).setCell ⟨gb287, 3, none⟩ (.int .u64 t285)).heap[gb269]? = some (.cells #[.int .u64 t264, .int .u64 t265, .int .u64 t266, .int .u64 t267] 27 (0, 0))) := ⟨by (with_reducible repeat (first | refine blk_drewN ?_ _ | refine blk_drew ?_ | refine blk_alloc ?_ _)); refine blk_far ?_ NB269_287.out _; (with_reducible repeat (first | refine blk_drewN ?_ _ | refine blk_drew ?_ | refine blk_alloc ?_ _)); refine blk_far ?_ NB269_287.out _; (with_reducible repeat (first | refine blk_drewN ?_ _ | refine blk_drew ?_ | refine blk_alloc ?_ _)); refine blk_far ?_ NB269_287.out _; (with_reducible repeat (first | refine blk_drewN ?_ _ | refine blk_drew ?_ | refine blk_alloc ?_ _)); refine blk_far ?_ NB269_287.out _; (with_reducible repeat (first | refine blk_drewN ?_ _ | refine blk_drew ?_ | refine blk_alloc ?_ _)); exact BK269.out⟩
        have n5_ : Aside0 (((((w59.setCell ⟨gb287, 0, none⟩ (.int .u64 t282)).setCell ⟨gb287, 1, none⟩ (.int .u64 t283)).setCell ⟨gb287, 2, none⟩ (.int .u64 t284)).setCell ⟨gb287, 3, none⟩ (.int .u64 t285)).heap[gb275]? = some (.cells #[.int .u64 t270, .int .u64 t271, .int .u64 t272, .int .u64 t273] 27 (0, 0))) := ⟨by (with_reducible repeat (first | refine blk_drewN ?_ _ | refine blk_drew ?_ | refine blk_alloc ?_ _)); refine blk_far ?_ NB275_287.out _; (with_reducible repeat (first | refine blk_drewN ?_ _ | refine blk_drew ?_ | refine blk_alloc ?_ _)); refine blk_far ?_ NB275_287.out _; (with_reducible repeat (first | refine blk_drewN ?_ _ | refine blk_drew ?_ | refine blk_alloc ?_ _)); refine blk_far ?_ NB275_287.out _; (with_reducible repeat (first | refine blk_drewN ?_ _ | refine blk_drew ?_ | refine blk_alloc ?_ _)); refine blk_far ?_ NB275_287.out _; (with_reducible repeat (first | refine blk_drewN ?_ _ | refine blk_drew ?_ | refine blk_alloc ?_ _)); exact BK275.out⟩
        have n6_ : Aside0 (((((w59.setCell ⟨gb287, 0, none⟩ (.int .u64 t282)).setCell ⟨gb287, 1, none⟩ (.int .u64 t283)).setCell ⟨gb287, 2, none⟩ (.int .u64 t284)).setCell ⟨gb287, 3, none⟩ (.int .u64 t285)).heap[gb281]? = some (.cells #[.int .u64 t276, .int .u64 t277, .int .u64 t278, .int .u64 t279] 27 (0, 0))) := ⟨by (with_reducible repeat (first | refine blk_drewN ?_ _ | refine blk_drew ?_ | refine blk_alloc ?_ _)); refine blk_far ?_ NB281_287.out _; (with_reducible repeat (first | refine blk_drewN ?_ _ | refine blk_drew ?_ | refine blk_alloc ?_ _)); refine blk_far ?_ NB281_287.out _; (with_reducible repeat (first | refine blk_drewN ?_ _ | refine blk_drew ?_ | refine blk_alloc ?_ _)); refine blk_far ?_ NB281_287.out _; (with_reducible repeat (first | refine blk_drewN ?_ _ | refine blk_drew ?_ | refine blk_alloc ?_ _)); refine blk_far ?_ NB281_287.out _; (with_reducible repeat (first | refine blk_drewN ?_ _ | refine blk_drew ?_ | refine blk_alloc ?_ _)); exact BK281.out⟩
        have n7_ : Aside0 (((((w59.setCell ⟨gb287, 0, none⟩ (.int .u64 t282)).setCell ⟨gb287, 1, none⟩ (.int .u64 t283)).setCell ⟨gb287, 2, none⟩ (.int .u64 t284)).setCell ⟨gb287, 3, none⟩ (.int .u64 t285)).heap[gb287]? = some (.cells #[.int .u64 t282, .int .u64 t283, .int .u64 t284, .int .u64 t285] 27 (0, 0))) := ⟨by (with_reducible repeat (first | refine blk_drewN ?_ _ | refine blk_drew ?_ | refine blk_alloc ?_ _)); refine blk_put (cs := #[.int .u64 t282, .int .u64 t283, .int .u64 t284, .int .u64 0]) ?_ 3 _ rfl; (with_reducible repeat (first | refine blk_drewN ?_ _ | refine blk_drew ?_ | refine blk_alloc ?_ _)); refine blk_put (cs := #[.int .u64 t282, .int .u64 t283, .int .u64 0, .int .u64 0]) ?_ 2 _ rfl; (with_reducible repeat (first | refine blk_drewN ?_ _ | refine blk_drew ?_ | refine blk_alloc ?_ _)); refine blk_put (cs := #[.int .u64 t282, .int .u64 0, .int .u64 0, .int .u64 0]) ?_ 1 _ rfl; (with_reducible repeat (first | refine blk_drewN ?_ _ | refine blk_drew ?_ | refine blk_alloc ?_ _)); refine blk_put (cs := #[.int .u64 0, .int .u64 0, .int .u64 0, .int .u64 0]) ?_ 0 _ rfl; (with_reducible repeat (first | refine blk_drewN ?_ _ | refine blk_drew ?_ | refine blk_alloc ?_ _)); exact BK287.out⟩
        have n8_ : Aside0 (Below w.heap.size w ((((w59.setCell ⟨gb287, 0, none⟩ (.int .u64 t282)).setCell ⟨gb287, 1, none⟩ (.int .u64 t283)).setCell ⟨gb287, 2, none⟩ (.int .u64 t284)).setCell ⟨gb287, 3, none⟩ (.int .u64 t285))) := ⟨by repeat (first | (with_reducible first | exact HB.out | apply below_alloc | apply pw_below_drewN | apply below_drew1 | refine below_set ?_ GE253.out | refine below_set ?_ GE254.out | refine below_set ?_ GE259.out | refine below_set ?_ GE263.out | refine below_set ?_ GE269.out | refine below_set ?_ GE275.out | refine below_set ?_ GE281.out | refine below_set ?_ GE287.out) | exact HB.out)⟩
        (try clear BK253)
        (try clear BK254)
        (try clear BK259)
        (try clear BK263)
        (try clear BK269)
        (try clear BK275)
        (try clear BK281)
        (try clear BK287)
        (try clear HB)
        generalize ((((w59.setCell ⟨gb287, 0, none⟩ (.int .u64 t282)).setCell ⟨gb287, 1, none⟩ (.int .u64 t283)).setCell ⟨gb287, 2, none⟩ (.int .u64 t284)).setCell ⟨gb287, 3, none⟩ (.int .u64 t285)) = w85 at n0_ n1_ n2_ n3_ n4_ n5_ n6_ n7_ n8_ ⊢
        have BK253 := n0_
        have BK254 := n1_
        have BK259 := n2_
        have BK263 := n3_
        have BK269 := n4_
        have BK275 := n5_
        have BK281 := n6_
        have BK287 := n7_
        have HB := n8_
        clear n0_ n1_ n2_ n3_ n4_ n5_ n6_ n7_ n8_
        have n0_ := Aside0.mk (blk_drew BK253.out)
        have n1_ := Aside0.mk (blk_drew BK254.out)
        have n2_ := Aside0.mk (blk_drew BK259.out)
        have n3_ := Aside0.mk (blk_drew BK263.out)
        have n4_ := Aside0.mk (blk_drew BK269.out)
        have n5_ := Aside0.mk (blk_drew BK275.out)
        have n6_ := Aside0.mk (blk_drew BK281.out)
        have n7_ := Aside0.mk (blk_drew BK287.out)
        have n8_ := Aside0.mk (below_drew1 HB.out)
        clear BK253
        clear BK254
        clear BK259
        clear BK263
        clear BK269
        clear BK275
        clear BK281
        clear BK287
        clear HB
        have BK253 := n0_
        have BK254 := n1_
        have BK259 := n2_
        have BK263 := n3_
        have BK269 := n4_
        have BK275 := n5_
        have BK281 := n6_
        have BK287 := n7_
        have HB := n8_
        clear n0_ n1_ n2_ n3_ n4_ n5_ n6_ n7_ n8_
        refine start_ (n := 25) (S := fun w' => w'.cell? ⟨gb253, 0, none⟩ = some (.int .u64 a0_0) ∧ w'.cell? ⟨gb253, 1, none⟩ = some (.int .u64 a0_1) ∧ w'.cell? ⟨gb259, 0, none⟩ = some (.int .u64 t256) ∧ w'.cell? ⟨gb259, 1, none⟩ = some (.int .u64 t257) ∧ w'.cell? ⟨gb263, 0, none⟩ = some (.int .u64 t260) ∧ w'.cell? ⟨gb263, 1, none⟩ = some (.int .u64 t261)) (ds := []) #[false, false, false, false, false, false, false, false, false, false, false, false, false, false, false, false, false, false, false, false, false, false, false, false, false] (by kernel_rfl) rfl rfl ⟨(blk_cell BK253.out 0).trans rfl, (blk_cell BK253.out 1).trans rfl, (blk_cell BK259.out 0).trans rfl, (blk_cell BK259.out 1).trans rfl, (blk_cell BK263.out 0).trans rfl, (blk_cell BK263.out 1).trans rfl⟩ (fun hHeld => ?_); refine with_tabW wigwaglaw19_CreditTells.tab8 wigwaglaw19_CreditTells.bits8 (fun HT_ HW_ => ?_)
        generalize w85.drew = w86 at BK253 BK254 BK259 BK263 BK269 BK275 BK281 BK287 HB hHeld ⊢
        refine take_ (i := 0) (N := some 60) (v := ?_) (a' := ?_) #[true, false, false, false, false, false, false, false, false, false, false, false, false, false, false, false, false, false, false, false, false, false, false, false, false] rfl rfl (take_ofW HT_.out HW_.out (by kernel_rfl)) (fun _ _ _ h => h) (Or.inl ⟨by rfl, ?_⟩) hHeld ?_ ?_
        rotate_left
        · rintro w' ⟨s0, s1, s2, s3, s4, s5⟩
          go_simp
          with_reducible rfl
        rotate_left
        · simp only [Act.put, List.setIfInBounds_toArray, List.set_cons_zero, List.set_cons_succ, i64_w, i32_w]
          rfl
        refine take_ (i := 2) (N := some 62) (v := ?_) (a' := ?_) #[true, false, true, false, false, false, false, false, false, false, false, false, false, false, false, false, false, false, false, false, false, false, false, false, false] rfl rfl (take_ofW HT_.out HW_.out (by kernel_rfl)) (fun _ _ _ h => h) (Or.inl ⟨by rfl, ?_⟩) hHeld ?_ ?_
        rotate_left
        · rintro w' ⟨s0, s1, s2, s3, s4, s5⟩
          go_simp
          with_reducible rfl
        rotate_left
        · simp only [Act.put, List.setIfInBounds_toArray, List.set_cons_zero, List.set_cons_succ, i64_w, i32_w]
          rfl
        refine one_ (i := 1) (N := some 61) #[true, true, true, false, false, false, false, false, false, false, false, false, false, false, false, false, false, false, false, false, false, false, false, false, false] rfl rfl (one_of HT_.out (by kernel_rfl)) (by decide) (fun K hK => ?_)
        refine goes_ Try.func16 (by kernel_rfl) rfl #[.agg #[.int .u64 a0_0, .int .u64 a0_1]] (by rfl) rfl rfl (by (try simp only [List.map_toArray, List.map_cons, List.map_nil]); first | done | rfl | (simp only [List.length_drop, List.length_take]; rfl)) ?_
        with_reducible refine (credit_Left.calls a0_0 a0_1 t288 _ A68.out).mono ?_
        rintro e w87 ⟨rfl, hb⟩
        refine ⟨_, rfl, ?_⟩
        have n0_ := Aside0.mk (blk_below (g := gb253) (o := .cells #[.int .u64 a0_0, .int .u64 a0_1] 25 (0, 0)) (by (with_reducible repeat (first | refine blk_drewN ?_ _ | refine blk_drew ?_ | refine blk_alloc ?_ _)); exact BK253.out) hb)
        have n1_ := Aside0.mk (blk_below (g := gb254) (o := .cells #[.int .u64 a1_0, .int .u64 a1_1, .int .u64 a1_2, .int .u64 a1_3] 27 (0, 0)) (by (with_reducible repeat (first | refine blk_drewN ?_ _ | refine blk_drew ?_ | refine blk_alloc ?_ _)); exact BK254.out) hb)
        have n2_ := Aside0.mk (blk_below (g := gb259) (o := .cells #[.int .u64 t256, .int .u64 t257] 25 (0, 0)) (by (with_reducible repeat (first | refine blk_drewN ?_ _ | refine blk_drew ?_ | refine blk_alloc ?_ _)); exact BK259.out) hb)
        have n3_ := Aside0.mk (blk_below (g := gb263) (o := .cells #[.int .u64 t260, .int .u64 t261] 25 (0, 0)) (by (with_reducible repeat (first | refine blk_drewN ?_ _ | refine blk_drew ?_ | refine blk_alloc ?_ _)); exact BK263.out) hb)
        have n4_ := Aside0.mk (blk_below (g := gb269) (o := .cells #[.int .u64 t264, .int .u64 t265, .int .u64 t266, .int .u64 t267] 27 (0, 0)) (by (with_reducible repeat (first | refine blk_drewN ?_ _ | refine blk_drew ?_ | refine blk_alloc ?_ _)); exact BK269.out) hb)
        have n5_ := Aside0.mk (blk_below (g := gb275) (o := .cells #[.int .u64 t270, .int .u64 t271, .int .u64 t272, .int .u64 t273] 27 (0, 0)) (by (with_reducible repeat (first | refine blk_drewN ?_ _ | refine blk_drew ?_ | refine blk_alloc ?_ _)); exact BK275.out) hb)
        have n6_ := Aside0.mk (blk_below (g := gb281) (o := .cells #[.int .u64 t276, .int .u64 t277, .int .u64 t278, .int .u64 t279] 27 (0, 0)) (by (with_reducible repeat (first | refine blk_drewN ?_ _ | refine blk_drew ?_ | refine blk_alloc ?_ _)); exact BK281.out) hb)
        have n7_ := Aside0.mk (blk_below (g := gb287) (o := .cells #[.int .u64 t282, .int .u64 t283, .int .u64 t284, .int .u64 t285] 27 (0, 0)) (by (with_reducible repeat (first | refine blk_drewN ?_ _ | refine blk_drew ?_ | refine blk_alloc ?_ _)); exact BK287.out) hb)
        have n8_ := Aside0.mk (below_step (by repeat (first | (with_reducible first | exact HB.out | apply below_alloc | apply pw_below_drewN | apply below_drew1 | refine below_set ?_ GE253.out | refine below_set ?_ GE254.out | refine below_set ?_ GE259.out | refine below_set ?_ GE263.out | refine below_set ?_ GE269.out | refine below_set ?_ GE275.out | refine below_set ?_ GE281.out | refine below_set ?_ GE287.out) | exact HB.out)) hb)
        clear BK253
        clear BK254
        clear BK259
        clear BK263
        clear BK269
        clear BK275
        clear BK281
        clear BK287
        clear HB
        have BK253 := n0_
        have BK254 := n1_
        have BK259 := n2_
        have BK263 := n3_
        have BK269 := n4_
        have BK275 := n5_
        have BK281 := n6_
        have BK287 := n7_
        have HB := n8_
        clear n0_ n1_ n2_ n3_ n4_ n5_ n6_ n7_ n8_
        (try clear hb)
        (try clear hb2)
        (try clear hk)
        (try clear hi)
        refine hK.out _ _ ⟨(blk_cell BK253.out 0).trans rfl, (blk_cell BK253.out 1).trans rfl, (blk_cell BK259.out 0).trans rfl, (blk_cell BK259.out 1).trans rfl, (blk_cell BK263.out 0).trans rfl, (blk_cell BK263.out 1).trans rfl⟩ (fun hHeld => ?_)
        clear hK K
        refine norm_ (a' := ?_) ?_ ?_
        rotate_left
        · show Act.put _ (some 61) _ = _
          simp only [Act.put, List.setIfInBounds_toArray, List.set_cons_zero, List.set_cons_succ, i64_w, i32_w]
          rfl
        refine one_ (i := 3) (N := some 63) #[true, true, true, true, false, false, false, false, false, false, false, false, false, false, false, false, false, false, false, false, false, false, false, false, false] rfl rfl (one_of HT_.out (by kernel_rfl)) (by decide) (fun K hK => ?_)
        refine goes_ Try.func17 (by kernel_rfl) rfl #[.agg #[.int .u64 a0_0, .int .u64 a0_1]] (by rfl) rfl rfl (by (try simp only [List.map_toArray, List.map_cons, List.map_nil]); first | done | rfl | (simp only [List.length_drop, List.length_take]; rfl)) ?_
        with_reducible refine (wigwagref19_Left.calls a0_0 a0_1 t289 _ A69.out).mono ?_
        rintro e w88 ⟨rfl, hb⟩
        refine ⟨_, rfl, ?_⟩
        have n0_ := Aside0.mk (blk_below (g := gb253) (o := .cells #[.int .u64 a0_0, .int .u64 a0_1] 25 (0, 0)) (by (with_reducible repeat (first | refine blk_drewN ?_ _ | refine blk_drew ?_ | refine blk_alloc ?_ _)); exact BK253.out) hb)
        have n1_ := Aside0.mk (blk_below (g := gb254) (o := .cells #[.int .u64 a1_0, .int .u64 a1_1, .int .u64 a1_2, .int .u64 a1_3] 27 (0, 0)) (by (with_reducible repeat (first | refine blk_drewN ?_ _ | refine blk_drew ?_ | refine blk_alloc ?_ _)); exact BK254.out) hb)
        have n2_ := Aside0.mk (blk_below (g := gb259) (o := .cells #[.int .u64 t256, .int .u64 t257] 25 (0, 0)) (by (with_reducible repeat (first | refine blk_drewN ?_ _ | refine blk_drew ?_ | refine blk_alloc ?_ _)); exact BK259.out) hb)
        have n3_ := Aside0.mk (blk_below (g := gb263) (o := .cells #[.int .u64 t260, .int .u64 t261] 25 (0, 0)) (by (with_reducible repeat (first | refine blk_drewN ?_ _ | refine blk_drew ?_ | refine blk_alloc ?_ _)); exact BK263.out) hb)
        have n4_ := Aside0.mk (blk_below (g := gb269) (o := .cells #[.int .u64 t264, .int .u64 t265, .int .u64 t266, .int .u64 t267] 27 (0, 0)) (by (with_reducible repeat (first | refine blk_drewN ?_ _ | refine blk_drew ?_ | refine blk_alloc ?_ _)); exact BK269.out) hb)
        have n5_ := Aside0.mk (blk_below (g := gb275) (o := .cells #[.int .u64 t270, .int .u64 t271, .int .u64 t272, .int .u64 t273] 27 (0, 0)) (by (with_reducible repeat (first | refine blk_drewN ?_ _ | refine blk_drew ?_ | refine blk_alloc ?_ _)); exact BK275.out) hb)
        have n6_ := Aside0.mk (blk_below (g := gb281) (o := .cells #[.int .u64 t276, .int .u64 t277, .int .u64 t278, .int .u64 t279] 27 (0, 0)) (by (with_reducible repeat (first | refine blk_drewN ?_ _ | refine blk_drew ?_ | refine blk_alloc ?_ _)); exact BK281.out) hb)
        have n7_ := Aside0.mk (blk_below (g := gb287) (o := .cells #[.int .u64 t282, .int .u64 t283, .int .u64 t284, .int .u64 t285] 27 (0, 0)) (by (with_reducible repeat (first | refine blk_drewN ?_ _ | refine blk_drew ?_ | refine blk_alloc ?_ _)); exact BK287.out) hb)
        have n8_ := Aside0.mk (below_step (by repeat (first | (with_reducible first | exact HB.out | apply below_alloc | apply pw_below_drewN | apply below_drew1 | refine below_set ?_ GE253.out | refine below_set ?_ GE254.out | refine below_set ?_ GE259.out | refine below_set ?_ GE263.out | refine below_set ?_ GE269.out | refine below_set ?_ GE275.out | refine below_set ?_ GE281.out | refine below_set ?_ GE287.out) | exact HB.out)) hb)
        clear BK253
        clear BK254
        clear BK259
        clear BK263
        clear BK269
        clear BK275
        clear BK281
        clear BK287
        clear HB
        have BK253 := n0_
        have BK254 := n1_
        have BK259 := n2_
        have BK263 := n3_
        have BK269 := n4_
        have BK275 := n5_
        have BK281 := n6_
        have BK287 := n7_
        have HB := n8_
        clear n0_ n1_ n2_ n3_ n4_ n5_ n6_ n7_ n8_
        (try clear hb)
        (try clear hb2)
        (try clear hk)
        (try clear hi)
        refine hK.out _ _ ⟨(blk_cell BK253.out 0).trans rfl, (blk_cell BK253.out 1).trans rfl, (blk_cell BK259.out 0).trans rfl, (blk_cell BK259.out 1).trans rfl, (blk_cell BK263.out 0).trans rfl, (blk_cell BK263.out 1).trans rfl⟩ (fun hHeld => ?_)
        clear hK K
        refine norm_ (a' := ?_) ?_ ?_
        rotate_left
        · show Act.put _ (some 63) _ = _
          simp only [Act.put, List.setIfInBounds_toArray, List.set_cons_zero, List.set_cons_succ, i64_w, i32_w]
          rfl
        refine pure_ (i := 4) (N := some 64) (v := ?_) (a' := ?_) #[true, true, true, true, true, false, false, false, false, false, false, false, false, false, false, false, false, false, false, false, false, false, false, false, false] rfl rfl (any_of HT_.out (by kernel_rfl)) (fun _ _ _ h => h) (Or.inl ⟨by rfl, ?_⟩) ?_ ?_
        rotate_left
        · intro w'
          go_simp
          with_reducible rfl
        rotate_left
        · simp only [Act.put, List.setIfInBounds_toArray, List.set_cons_zero, List.set_cons_succ, i64_w, i32_w]
          rfl
        refine pure_ (i := 5) (N := some 65) (v := ?_) (a' := ?_) #[true, true, true, true, true, true, false, false, false, false, false, false, false, false, false, false, false, false, false, false, false, false, false, false, false] rfl rfl (any_of HT_.out (by kernel_rfl)) (fun _ _ _ h => h) (Or.inl ⟨by rfl, ?_⟩) ?_ ?_
        rotate_left
        · intro w'
          go_simp
          with_reducible rfl
        rotate_left
        · simp only [Act.put, List.setIfInBounds_toArray, List.set_cons_zero, List.set_cons_succ, i64_w, i32_w]
          rfl
        refine take_ (i := 6) (N := some 66) (v := ?_) (a' := ?_) #[true, true, true, true, true, true, true, false, false, false, false, false, false, false, false, false, false, false, false, false, false, false, false, false, false] rfl rfl (take_ofW HT_.out HW_.out (by kernel_rfl)) (fun _ _ _ h => h) (Or.inl ⟨by rfl, ?_⟩) hHeld ?_ ?_
        rotate_left
        · rintro w' ⟨s0, s1, s2, s3, s4, s5⟩
          go_simp
          with_reducible rfl
        rotate_left
        · simp only [Act.put, List.setIfInBounds_toArray, List.set_cons_zero, List.set_cons_succ, i64_w, i32_w]
          rfl
        refine take_ (i := 7) (N := some 67) (v := ?_) (a' := ?_) #[true, true, true, true, true, true, true, true, false, false, false, false, false, false, false, false, false, false, false, false, false, false, false, false, false] rfl rfl (take_ofW HT_.out HW_.out (by kernel_rfl)) (fun _ _ _ h => h) (Or.inl ⟨by rfl, ?_⟩) hHeld ?_ ?_
        rotate_left
        · rintro w' ⟨s0, s1, s2, s3, s4, s5⟩
          go_simp
          with_reducible rfl
        rotate_left
        · simp only [Act.put, List.setIfInBounds_toArray, List.set_cons_zero, List.set_cons_succ, i64_w, i32_w]
          rfl
        refine pure_ (i := 8) (N := some 68) (v := ?_) (a' := ?_) #[true, true, true, true, true, true, true, true, true, false, false, false, false, false, false, false, false, false, false, false, false, false, false, false, false] rfl rfl (any_of HT_.out (by kernel_rfl)) (fun _ _ _ h => h) (Or.inl ⟨by rfl, ?_⟩) ?_ ?_
        rotate_left
        · intro w'
          go_simp
          with_reducible rfl
        rotate_left
        · simp only [Act.put, List.setIfInBounds_toArray, List.set_cons_zero, List.set_cons_succ, i64_w, i32_w]
          rfl
        refine pure_ (i := 9) (N := some 69) (v := ?_) (a' := ?_) #[true, true, true, true, true, true, true, true, true, true, false, false, false, false, false, false, false, false, false, false, false, false, false, false, false] rfl rfl (any_of HT_.out (by kernel_rfl)) (fun _ _ _ h => h) (Or.inl ⟨by rfl, ?_⟩) ?_ ?_
        rotate_left
        · intro w'
          go_simp
          with_reducible rfl
        rotate_left
        · simp only [Act.put, List.setIfInBounds_toArray, List.set_cons_zero, List.set_cons_succ, i64_w, i32_w]
          rfl
        refine pure_ (i := 10) (N := some 70) (v := ?_) (a' := ?_) #[true, true, true, true, true, true, true, true, true, true, true, false, false, false, false, false, false, false, false, false, false, false, false, false, false] rfl rfl (any_of HT_.out (by kernel_rfl)) (fun _ _ _ h => h) (Or.inl ⟨by rfl, ?_⟩) ?_ ?_
        rotate_left
        · intro w'
          go_simp
          with_reducible rfl
        rotate_left
        · simp only [Act.put, List.setIfInBounds_toArray, List.set_cons_zero, List.set_cons_succ, i64_w, i32_w]
          rfl
        refine pure_ (i := 11) (N := some 71) (v := undef) (a' := ?_) #[true, true, true, true, true, true, true, true, true, true, true, true, false, false, false, false, false, false, false, false, false, false, false, false, false] rfl rfl (any_of HT_.out (by kernel_rfl)) (fun _ _ _ h => h) (Or.inr ⟨by rfl, rfl⟩) ?_ ?_
        rotate_left
        · simp only [Act.put, List.setIfInBounds_toArray, List.set_cons_zero, List.set_cons_succ, i64_w, i32_w]
          rfl
        refine pure_ (i := 12) (N := some 72) (v := undef) (a' := ?_) #[true, true, true, true, true, true, true, true, true, true, true, true, true, false, false, false, false, false, false, false, false, false, false, false, false] rfl rfl (any_of HT_.out (by kernel_rfl)) (fun _ _ _ h => h) (Or.inr ⟨by rfl, rfl⟩) ?_ ?_
        rotate_left
        · simp only [Act.put, List.setIfInBounds_toArray, List.set_cons_zero, List.set_cons_succ, i64_w, i32_w]
          rfl
        refine pure_ (i := 13) (N := some 73) (v := undef) (a' := ?_) #[true, true, true, true, true, true, true, true, true, true, true, true, true, true, false, false, false, false, false, false, false, false, false, false, false] rfl rfl (any_of HT_.out (by kernel_rfl)) (fun _ _ _ h => h) (Or.inr ⟨by rfl, rfl⟩) ?_ ?_
        rotate_left
        · simp only [Act.put, List.setIfInBounds_toArray, List.set_cons_zero, List.set_cons_succ, i64_w, i32_w]
          rfl
        refine pure_ (i := 14) (N := some 74) (v := ?_) (a' := ?_) #[true, true, true, true, true, true, true, true, true, true, true, true, true, true, true, false, false, false, false, false, false, false, false, false, false] rfl rfl (any_of HT_.out (by kernel_rfl)) (fun _ _ _ h => h) (Or.inl ⟨by rfl, ?_⟩) ?_ ?_
        rotate_left
        · intro w'
          go_simp
          with_reducible rfl
        rotate_left
        · simp only [Act.put, List.setIfInBounds_toArray, List.set_cons_zero, List.set_cons_succ, i64_w, i32_w]
          rfl
        refine pure_ (i := 15) (N := some 75) (v := ?_) (a' := ?_) #[true, true, true, true, true, true, true, true, true, true, true, true, true, true, true, true, false, false, false, false, false, false, false, false, false] rfl rfl (any_of HT_.out (by kernel_rfl)) (fun _ _ _ h => h) (Or.inl ⟨by rfl, ?_⟩) ?_ ?_
        rotate_left
        · intro w'
          go_simp
          with_reducible rfl
        rotate_left
        · simp only [Act.put, List.setIfInBounds_toArray, List.set_cons_zero, List.set_cons_succ, i64_w, i32_w]
          rfl
        refine pure_ (i := 16) (N := some 76) (v := undef) (a' := ?_) #[true, true, true, true, true, true, true, true, true, true, true, true, true, true, true, true, true, false, false, false, false, false, false, false, false] rfl rfl (any_of HT_.out (by kernel_rfl)) (fun _ _ _ h => h) (Or.inr ⟨by rfl, rfl⟩) ?_ ?_
        rotate_left
        · simp only [Act.put, List.setIfInBounds_toArray, List.set_cons_zero, List.set_cons_succ, i64_w, i32_w]
          rfl
        refine pure_ (i := 17) (N := some 77) (v := undef) (a' := ?_) #[true, true, true, true, true, true, true, true, true, true, true, true, true, true, true, true, true, true, false, false, false, false, false, false, false] rfl rfl (any_of HT_.out (by kernel_rfl)) (fun _ _ _ h => h) (Or.inr ⟨by rfl, rfl⟩) ?_ ?_
        rotate_left
        · simp only [Act.put, List.setIfInBounds_toArray, List.set_cons_zero, List.set_cons_succ, i64_w, i32_w]
          rfl
        refine pure_ (i := 18) (N := some 78) (v := undef) (a' := ?_) #[true, true, true, true, true, true, true, true, true, true, true, true, true, true, true, true, true, true, true, false, false, false, false, false, false] rfl rfl (any_of HT_.out (by kernel_rfl)) (fun _ _ _ h => h) (Or.inr ⟨by rfl, rfl⟩) ?_ ?_
        rotate_left
        · simp only [Act.put, List.setIfInBounds_toArray, List.set_cons_zero, List.set_cons_succ, i64_w, i32_w]
          rfl
        refine pure_ (i := 19) (N := some 79) (v := undef) (a' := ?_) #[true, true, true, true, true, true, true, true, true, true, true, true, true, true, true, true, true, true, true, true, false, false, false, false, false] rfl rfl (any_of HT_.out (by kernel_rfl)) (fun _ _ _ h => h) (Or.inr ⟨by rfl, rfl⟩) ?_ ?_
        rotate_left
        · simp only [Act.put, List.setIfInBounds_toArray, List.set_cons_zero, List.set_cons_succ, i64_w, i32_w]
          rfl
        refine pure_ (i := 20) (N := some 80) (v := undef) (a' := ?_) #[true, true, true, true, true, true, true, true, true, true, true, true, true, true, true, true, true, true, true, true, true, false, false, false, false] rfl rfl (any_of HT_.out (by kernel_rfl)) (fun _ _ _ h => h) (Or.inr ⟨by rfl, rfl⟩) ?_ ?_
        rotate_left
        · simp only [Act.put, List.setIfInBounds_toArray, List.set_cons_zero, List.set_cons_succ, i64_w, i32_w]
          rfl
        refine pure_ (i := 21) (N := some 81) (v := undef) (a' := ?_) #[true, true, true, true, true, true, true, true, true, true, true, true, true, true, true, true, true, true, true, true, true, true, false, false, false] rfl rfl (any_of HT_.out (by kernel_rfl)) (fun _ _ _ h => h) (Or.inr ⟨by rfl, rfl⟩) ?_ ?_
        rotate_left
        · simp only [Act.put, List.setIfInBounds_toArray, List.set_cons_zero, List.set_cons_succ, i64_w, i32_w]
          rfl
        refine pure_ (i := 22) (N := some 82) (v := undef) (a' := ?_) #[true, true, true, true, true, true, true, true, true, true, true, true, true, true, true, true, true, true, true, true, true, true, true, false, false] rfl rfl (any_of HT_.out (by kernel_rfl)) (fun _ _ _ h => h) (Or.inr ⟨by rfl, rfl⟩) ?_ ?_
        rotate_left
        · simp only [Act.put, List.setIfInBounds_toArray, List.set_cons_zero, List.set_cons_succ, i64_w, i32_w]
          rfl
        refine pure_ (i := 23) (N := some 83) (v := ?_) (a' := ?_) #[true, true, true, true, true, true, true, true, true, true, true, true, true, true, true, true, true, true, true, true, true, true, true, true, false] rfl rfl (any_of HT_.out (by kernel_rfl)) (fun _ _ _ h => h) (Or.inl ⟨by rfl, ?_⟩) ?_ ?_
        rotate_left
        · intro w'
          go_simp
          with_reducible rfl
        rotate_left
        · simp only [Act.put, List.setIfInBounds_toArray, List.set_cons_zero, List.set_cons_succ, i64_w, i32_w]
          rfl
        refine pure_ (i := 24) (N := some 22) (v := ?_) (a' := ?_) #[true, true, true, true, true, true, true, true, true, true, true, true, true, true, true, true, true, true, true, true, true, true, true, true, true] rfl rfl (any_of HT_.out (by kernel_rfl)) (fun _ _ _ h => h) (Or.inl ⟨by rfl, ?_⟩) ?_ ?_
        rotate_left
        · intro w'
          go_simp
          with_reducible rfl
        rotate_left
        · simp only [Act.put, List.setIfInBounds_toArray, List.set_cons_zero, List.set_cons_succ, i64_w, i32_w]
          rfl
        refine done_ (done_of HT_.out (by kernel_rfl)) ?_
        try go_wp2
        go_meet
        case rel => exact ⟨_, (false), (by first | rfl | (simp; done) | (simp [*]; done)), H', ⟨by first | omega | exact Nat.le_refl _⟩, ⟨by (with_reducible repeat (first | refine blk_drewN ?_ _ | refine blk_drew ?_ | refine blk_alloc ?_ _)); exact BK253.out⟩, ⟨by (with_reducible repeat (first | refine blk_drewN ?_ _ | refine blk_drew ?_ | refine blk_alloc ?_ _)); exact BK254.out⟩, ⟨by (with_reducible repeat (first | refine blk_drewN ?_ _ | refine blk_drew ?_ | refine blk_alloc ?_ _)); exact BK259.out⟩, ⟨by (with_reducible repeat (first | refine blk_drewN ?_ _ | refine blk_drew ?_ | refine blk_alloc ?_ _)); exact BK263.out⟩, ⟨by (with_reducible repeat (first | refine blk_drewN ?_ _ | refine blk_drew ?_ | refine blk_alloc ?_ _)); exact BK269.out⟩, ⟨by (with_reducible repeat (first | refine blk_drewN ?_ _ | refine blk_drew ?_ | refine blk_alloc ?_ _)); exact BK275.out⟩, ⟨by (with_reducible repeat (first | refine blk_drewN ?_ _ | refine blk_drew ?_ | refine blk_alloc ?_ _)); exact BK281.out⟩, ⟨by (with_reducible repeat (first | refine blk_drewN ?_ _ | refine blk_drew ?_ | refine blk_alloc ?_ _)); exact BK287.out⟩, ⟨by repeat (first | (with_reducible first | exact HB.out | apply below_alloc | apply pw_below_drewN | apply below_drew1 | refine below_set ?_ GE253.out | refine below_set ?_ GE254.out | refine below_set ?_ GE259.out | refine below_set ?_ GE263.out | refine below_set ?_ GE269.out | refine below_set ?_ GE275.out | refine below_set ?_ GE281.out | refine below_set ?_ GE287.out) | exact HB.out)⟩⟩
    · rw [if_neg c70] at H
      have c70b0 : (t288 == t289) = false := beq_eq_false_iff_ne.mpr c70
      have c70b1 : (t288 != t289) = true := bne_iff_ne.mpr c70
      (first | rw [c70b0] | (simp only [i64_w, i32_w]; rw [c70b0]) | skip)
      have H' := Aside0.mk H
      clear H
      try go_wp2
      have n0_ : Aside0 (((((w59.setCell ⟨gb287, 0, none⟩ (.int .u64 t282)).setCell ⟨gb287, 1, none⟩ (.int .u64 t283)).setCell ⟨gb287, 2, none⟩ (.int .u64 t284)).setCell ⟨gb287, 3, none⟩ (.int .u64 t285)).heap[gb253]? = some (.cells #[.int .u64 a0_0, .int .u64 a0_1] 25 (0, 0))) := ⟨by (with_reducible repeat (first | refine blk_drewN ?_ _ | refine blk_drew ?_ | refine blk_alloc ?_ _)); refine blk_far ?_ NB253_287.out _; (with_reducible repeat (first | refine blk_drewN ?_ _ | refine blk_drew ?_ | refine blk_alloc ?_ _)); refine blk_far ?_ NB253_287.out _; (with_reducible repeat (first | refine blk_drewN ?_ _ | refine blk_drew ?_ | refine blk_alloc ?_ _)); refine blk_far ?_ NB253_287.out _; (with_reducible repeat (first | refine blk_drewN ?_ _ | refine blk_drew ?_ | refine blk_alloc ?_ _)); refine blk_far ?_ NB253_287.out _; (with_reducible repeat (first | refine blk_drewN ?_ _ | refine blk_drew ?_ | refine blk_alloc ?_ _)); exact BK253.out⟩
      have n1_ : Aside0 (((((w59.setCell ⟨gb287, 0, none⟩ (.int .u64 t282)).setCell ⟨gb287, 1, none⟩ (.int .u64 t283)).setCell ⟨gb287, 2, none⟩ (.int .u64 t284)).setCell ⟨gb287, 3, none⟩ (.int .u64 t285)).heap[gb254]? = some (.cells #[.int .u64 a1_0, .int .u64 a1_1, .int .u64 a1_2, .int .u64 a1_3] 27 (0, 0))) := ⟨by (with_reducible repeat (first | refine blk_drewN ?_ _ | refine blk_drew ?_ | refine blk_alloc ?_ _)); refine blk_far ?_ NB254_287.out _; (with_reducible repeat (first | refine blk_drewN ?_ _ | refine blk_drew ?_ | refine blk_alloc ?_ _)); refine blk_far ?_ NB254_287.out _; (with_reducible repeat (first | refine blk_drewN ?_ _ | refine blk_drew ?_ | refine blk_alloc ?_ _)); refine blk_far ?_ NB254_287.out _; (with_reducible repeat (first | refine blk_drewN ?_ _ | refine blk_drew ?_ | refine blk_alloc ?_ _)); refine blk_far ?_ NB254_287.out _; (with_reducible repeat (first | refine blk_drewN ?_ _ | refine blk_drew ?_ | refine blk_alloc ?_ _)); exact BK254.out⟩
      have n2_ : Aside0 (((((w59.setCell ⟨gb287, 0, none⟩ (.int .u64 t282)).setCell ⟨gb287, 1, none⟩ (.int .u64 t283)).setCell ⟨gb287, 2, none⟩ (.int .u64 t284)).setCell ⟨gb287, 3, none⟩ (.int .u64 t285)).heap[gb259]? = some (.cells #[.int .u64 t256, .int .u64 t257] 25 (0, 0))) := ⟨by (with_reducible repeat (first | refine blk_drewN ?_ _ | refine blk_drew ?_ | refine blk_alloc ?_ _)); refine blk_far ?_ NB259_287.out _; (with_reducible repeat (first | refine blk_drewN ?_ _ | refine blk_drew ?_ | refine blk_alloc ?_ _)); refine blk_far ?_ NB259_287.out _; (with_reducible repeat (first | refine blk_drewN ?_ _ | refine blk_drew ?_ | refine blk_alloc ?_ _)); refine blk_far ?_ NB259_287.out _; (with_reducible repeat (first | refine blk_drewN ?_ _ | refine blk_drew ?_ | refine blk_alloc ?_ _)); refine blk_far ?_ NB259_287.out _; (with_reducible repeat (first | refine blk_drewN ?_ _ | refine blk_drew ?_ | refine blk_alloc ?_ _)); exact BK259.out⟩
      have n3_ : Aside0 (((((w59.setCell ⟨gb287, 0, none⟩ (.int .u64 t282)).setCell ⟨gb287, 1, none⟩ (.int .u64 t283)).setCell ⟨gb287, 2, none⟩ (.int .u64 t284)).setCell ⟨gb287, 3, none⟩ (.int .u64 t285)).heap[gb263]? = some (.cells #[.int .u64 t260, .int .u64 t261] 25 (0, 0))) := ⟨by (with_reducible repeat (first | refine blk_drewN ?_ _ | refine blk_drew ?_ | refine blk_alloc ?_ _)); refine blk_far ?_ NB263_287.out _; (with_reducible repeat (first | refine blk_drewN ?_ _ | refine blk_drew ?_ | refine blk_alloc ?_ _)); refine blk_far ?_ NB263_287.out _; (with_reducible repeat (first | refine blk_drewN ?_ _ | refine blk_drew ?_ | refine blk_alloc ?_ _)); refine blk_far ?_ NB263_287.out _; (with_reducible repeat (first | refine blk_drewN ?_ _ | refine blk_drew ?_ | refine blk_alloc ?_ _)); refine blk_far ?_ NB263_287.out _; (with_reducible repeat (first | refine blk_drewN ?_ _ | refine blk_drew ?_ | refine blk_alloc ?_ _)); exact BK263.out⟩
      have n4_ : Aside0 (((((w59.setCell ⟨gb287, 0, none⟩ (.int .u64 t282)).setCell ⟨gb287, 1, none⟩ (.int .u64 t283)).setCell ⟨gb287, 2, none⟩ (.int .u64 t284)).setCell ⟨gb287, 3, none⟩ (.int .u64 t285)).heap[gb269]? = some (.cells #[.int .u64 t264, .int .u64 t265, .int .u64 t266, .int .u64 t267] 27 (0, 0))) := ⟨by (with_reducible repeat (first | refine blk_drewN ?_ _ | refine blk_drew ?_ | refine blk_alloc ?_ _)); refine blk_far ?_ NB269_287.out _; (with_reducible repeat (first | refine blk_drewN ?_ _ | refine blk_drew ?_ | refine blk_alloc ?_ _)); refine blk_far ?_ NB269_287.out _; (with_reducible repeat (first | refine blk_drewN ?_ _ | refine blk_drew ?_ | refine blk_alloc ?_ _)); refine blk_far ?_ NB269_287.out _; (with_reducible repeat (first | refine blk_drewN ?_ _ | refine blk_drew ?_ | refine blk_alloc ?_ _)); refine blk_far ?_ NB269_287.out _; (with_reducible repeat (first | refine blk_drewN ?_ _ | refine blk_drew ?_ | refine blk_alloc ?_ _)); exact BK269.out⟩
      have n5_ : Aside0 (((((w59.setCell ⟨gb287, 0, none⟩ (.int .u64 t282)).setCell ⟨gb287, 1, none⟩ (.int .u64 t283)).setCell ⟨gb287, 2, none⟩ (.int .u64 t284)).setCell ⟨gb287, 3, none⟩ (.int .u64 t285)).heap[gb275]? = some (.cells #[.int .u64 t270, .int .u64 t271, .int .u64 t272, .int .u64 t273] 27 (0, 0))) := ⟨by (with_reducible repeat (first | refine blk_drewN ?_ _ | refine blk_drew ?_ | refine blk_alloc ?_ _)); refine blk_far ?_ NB275_287.out _; (with_reducible repeat (first | refine blk_drewN ?_ _ | refine blk_drew ?_ | refine blk_alloc ?_ _)); refine blk_far ?_ NB275_287.out _; (with_reducible repeat (first | refine blk_drewN ?_ _ | refine blk_drew ?_ | refine blk_alloc ?_ _)); refine blk_far ?_ NB275_287.out _; (with_reducible repeat (first | refine blk_drewN ?_ _ | refine blk_drew ?_ | refine blk_alloc ?_ _)); refine blk_far ?_ NB275_287.out _; (with_reducible repeat (first | refine blk_drewN ?_ _ | refine blk_drew ?_ | refine blk_alloc ?_ _)); exact BK275.out⟩
      have n6_ : Aside0 (((((w59.setCell ⟨gb287, 0, none⟩ (.int .u64 t282)).setCell ⟨gb287, 1, none⟩ (.int .u64 t283)).setCell ⟨gb287, 2, none⟩ (.int .u64 t284)).setCell ⟨gb287, 3, none⟩ (.int .u64 t285)).heap[gb281]? = some (.cells #[.int .u64 t276, .int .u64 t277, .int .u64 t278, .int .u64 t279] 27 (0, 0))) := ⟨by (with_reducible repeat (first | refine blk_drewN ?_ _ | refine blk_drew ?_ | refine blk_alloc ?_ _)); refine blk_far ?_ NB281_287.out _; (with_reducible repeat (first | refine blk_drewN ?_ _ | refine blk_drew ?_ | refine blk_alloc ?_ _)); refine blk_far ?_ NB281_287.out _; (with_reducible repeat (first | refine blk_drewN ?_ _ | refine blk_drew ?_ | refine blk_alloc ?_ _)); refine blk_far ?_ NB281_287.out _; (with_reducible repeat (first | refine blk_drewN ?_ _ | refine blk_drew ?_ | refine blk_alloc ?_ _)); refine blk_far ?_ NB281_287.out _; (with_reducible repeat (first | refine blk_drewN ?_ _ | refine blk_drew ?_ | refine blk_alloc ?_ _)); exact BK281.out⟩
      have n7_ : Aside0 (((((w59.setCell ⟨gb287, 0, none⟩ (.int .u64 t282)).setCell ⟨gb287, 1, none⟩ (.int .u64 t283)).setCell ⟨gb287, 2, none⟩ (.int .u64 t284)).setCell ⟨gb287, 3, none⟩ (.int .u64 t285)).heap[gb287]? = some (.cells #[.int .u64 t282, .int .u64 t283, .int .u64 t284, .int .u64 t285] 27 (0, 0))) := ⟨by (with_reducible repeat (first | refine blk_drewN ?_ _ | refine blk_drew ?_ | refine blk_alloc ?_ _)); refine blk_put (cs := #[.int .u64 t282, .int .u64 t283, .int .u64 t284, .int .u64 0]) ?_ 3 _ rfl; (with_reducible repeat (first | refine blk_drewN ?_ _ | refine blk_drew ?_ | refine blk_alloc ?_ _)); refine blk_put (cs := #[.int .u64 t282, .int .u64 t283, .int .u64 0, .int .u64 0]) ?_ 2 _ rfl; (with_reducible repeat (first | refine blk_drewN ?_ _ | refine blk_drew ?_ | refine blk_alloc ?_ _)); refine blk_put (cs := #[.int .u64 t282, .int .u64 0, .int .u64 0, .int .u64 0]) ?_ 1 _ rfl; (with_reducible repeat (first | refine blk_drewN ?_ _ | refine blk_drew ?_ | refine blk_alloc ?_ _)); refine blk_put (cs := #[.int .u64 0, .int .u64 0, .int .u64 0, .int .u64 0]) ?_ 0 _ rfl; (with_reducible repeat (first | refine blk_drewN ?_ _ | refine blk_drew ?_ | refine blk_alloc ?_ _)); exact BK287.out⟩
      have n8_ : Aside0 (Below w.heap.size w ((((w59.setCell ⟨gb287, 0, none⟩ (.int .u64 t282)).setCell ⟨gb287, 1, none⟩ (.int .u64 t283)).setCell ⟨gb287, 2, none⟩ (.int .u64 t284)).setCell ⟨gb287, 3, none⟩ (.int .u64 t285))) := ⟨by repeat (first | (with_reducible first | exact HB.out | apply below_alloc | apply pw_below_drewN | apply below_drew1 | refine below_set ?_ GE253.out | refine below_set ?_ GE254.out | refine below_set ?_ GE259.out | refine below_set ?_ GE263.out | refine below_set ?_ GE269.out | refine below_set ?_ GE275.out | refine below_set ?_ GE281.out | refine below_set ?_ GE287.out) | exact HB.out)⟩
      (try clear BK253)
      (try clear BK254)
      (try clear BK259)
      (try clear BK263)
      (try clear BK269)
      (try clear BK275)
      (try clear BK281)
      (try clear BK287)
      (try clear HB)
      generalize ((((w59.setCell ⟨gb287, 0, none⟩ (.int .u64 t282)).setCell ⟨gb287, 1, none⟩ (.int .u64 t283)).setCell ⟨gb287, 2, none⟩ (.int .u64 t284)).setCell ⟨gb287, 3, none⟩ (.int .u64 t285)) = w89 at n0_ n1_ n2_ n3_ n4_ n5_ n6_ n7_ n8_ ⊢
      have BK253 := n0_
      have BK254 := n1_
      have BK259 := n2_
      have BK263 := n3_
      have BK269 := n4_
      have BK275 := n5_
      have BK281 := n6_
      have BK287 := n7_
      have HB := n8_
      clear n0_ n1_ n2_ n3_ n4_ n5_ n6_ n7_ n8_
      have n0_ := Aside0.mk (blk_drew BK253.out)
      have n1_ := Aside0.mk (blk_drew BK254.out)
      have n2_ := Aside0.mk (blk_drew BK259.out)
      have n3_ := Aside0.mk (blk_drew BK263.out)
      have n4_ := Aside0.mk (blk_drew BK269.out)
      have n5_ := Aside0.mk (blk_drew BK275.out)
      have n6_ := Aside0.mk (blk_drew BK281.out)
      have n7_ := Aside0.mk (blk_drew BK287.out)
      have n8_ := Aside0.mk (below_drew1 HB.out)
      clear BK253
      clear BK254
      clear BK259
      clear BK263
      clear BK269
      clear BK275
      clear BK281
      clear BK287
      clear HB
      have BK253 := n0_
      have BK254 := n1_
      have BK259 := n2_
      have BK263 := n3_
      have BK269 := n4_
      have BK275 := n5_
      have BK281 := n6_
      have BK287 := n7_
      have HB := n8_
      clear n0_ n1_ n2_ n3_ n4_ n5_ n6_ n7_ n8_
      refine start_ (n := 25) (S := fun w' => w'.cell? ⟨gb253, 0, none⟩ = some (.int .u64 a0_0) ∧ w'.cell? ⟨gb253, 1, none⟩ = some (.int .u64 a0_1)) (ds := []) #[false, false, false, false, false, false, false, false, false, false, false, false, false, false, false, false, false, false, false, false, false, false, false, false, false] (by kernel_rfl) rfl rfl ⟨(blk_cell BK253.out 0).trans rfl, (blk_cell BK253.out 1).trans rfl⟩ (fun hHeld => ?_); refine with_tabW wigwaglaw19_CreditTells.tab8 wigwaglaw19_CreditTells.bits8 (fun HT_ HW_ => ?_)
      generalize w89.drew = w90 at BK253 BK254 BK259 BK263 BK269 BK275 BK281 BK287 HB hHeld ⊢
      refine take_ (i := 0) (N := some 60) (v := ?_) (a' := ?_) #[true, false, false, false, false, false, false, false, false, false, false, false, false, false, false, false, false, false, false, false, false, false, false, false, false] rfl rfl (take_ofW HT_.out HW_.out (by kernel_rfl)) (fun _ _ _ h => h) (Or.inl ⟨by rfl, ?_⟩) hHeld ?_ ?_
      rotate_left
      · rintro w' ⟨s0, s1⟩
        go_simp
        with_reducible rfl
      rotate_left
      · simp only [Act.put, List.setIfInBounds_toArray, List.set_cons_zero, List.set_cons_succ, i64_w, i32_w]
        rfl
      refine take_ (i := 2) (N := some 62) (v := ?_) (a' := ?_) #[true, false, true, false, false, false, false, false, false, false, false, false, false, false, false, false, false, false, false, false, false, false, false, false, false] rfl rfl (take_ofW HT_.out HW_.out (by kernel_rfl)) (fun _ _ _ h => h) (Or.inl ⟨by rfl, ?_⟩) hHeld ?_ ?_
      rotate_left
      · rintro w' ⟨s0, s1⟩
        go_simp
        with_reducible rfl
      rotate_left
      · simp only [Act.put, List.setIfInBounds_toArray, List.set_cons_zero, List.set_cons_succ, i64_w, i32_w]
        rfl
      refine one_ (i := 1) (N := some 61) #[true, true, true, false, false, false, false, false, false, false, false, false, false, false, false, false, false, false, false, false, false, false, false, false, false] rfl rfl (one_of HT_.out (by kernel_rfl)) (by decide) (fun K hK => ?_)
      refine goes_ Try.func16 (by kernel_rfl) rfl #[.agg #[.int .u64 a0_0, .int .u64 a0_1]] (by rfl) rfl rfl (by (try simp only [List.map_toArray, List.map_cons, List.map_nil]); first | done | rfl | (simp only [List.length_drop, List.length_take]; rfl)) ?_
      with_reducible refine (credit_Left.calls a0_0 a0_1 t288 _ A68.out).mono ?_
      rintro e w91 ⟨rfl, hb⟩
      refine ⟨_, rfl, ?_⟩
      have n0_ := Aside0.mk (blk_below (g := gb253) (o := .cells #[.int .u64 a0_0, .int .u64 a0_1] 25 (0, 0)) (by (with_reducible repeat (first | refine blk_drewN ?_ _ | refine blk_drew ?_ | refine blk_alloc ?_ _)); exact BK253.out) hb)
      have n1_ := Aside0.mk (blk_below (g := gb254) (o := .cells #[.int .u64 a1_0, .int .u64 a1_1, .int .u64 a1_2, .int .u64 a1_3] 27 (0, 0)) (by (with_reducible repeat (first | refine blk_drewN ?_ _ | refine blk_drew ?_ | refine blk_alloc ?_ _)); exact BK254.out) hb)
      have n2_ := Aside0.mk (blk_below (g := gb259) (o := .cells #[.int .u64 t256, .int .u64 t257] 25 (0, 0)) (by (with_reducible repeat (first | refine blk_drewN ?_ _ | refine blk_drew ?_ | refine blk_alloc ?_ _)); exact BK259.out) hb)
      have n3_ := Aside0.mk (blk_below (g := gb263) (o := .cells #[.int .u64 t260, .int .u64 t261] 25 (0, 0)) (by (with_reducible repeat (first | refine blk_drewN ?_ _ | refine blk_drew ?_ | refine blk_alloc ?_ _)); exact BK263.out) hb)
      have n4_ := Aside0.mk (blk_below (g := gb269) (o := .cells #[.int .u64 t264, .int .u64 t265, .int .u64 t266, .int .u64 t267] 27 (0, 0)) (by (with_reducible repeat (first | refine blk_drewN ?_ _ | refine blk_drew ?_ | refine blk_alloc ?_ _)); exact BK269.out) hb)
      have n5_ := Aside0.mk (blk_below (g := gb275) (o := .cells #[.int .u64 t270, .int .u64 t271, .int .u64 t272, .int .u64 t273] 27 (0, 0)) (by (with_reducible repeat (first | refine blk_drewN ?_ _ | refine blk_drew ?_ | refine blk_alloc ?_ _)); exact BK275.out) hb)
      have n6_ := Aside0.mk (blk_below (g := gb281) (o := .cells #[.int .u64 t276, .int .u64 t277, .int .u64 t278, .int .u64 t279] 27 (0, 0)) (by (with_reducible repeat (first | refine blk_drewN ?_ _ | refine blk_drew ?_ | refine blk_alloc ?_ _)); exact BK281.out) hb)
      have n7_ := Aside0.mk (blk_below (g := gb287) (o := .cells #[.int .u64 t282, .int .u64 t283, .int .u64 t284, .int .u64 t285] 27 (0, 0)) (by (with_reducible repeat (first | refine blk_drewN ?_ _ | refine blk_drew ?_ | refine blk_alloc ?_ _)); exact BK287.out) hb)
      have n8_ := Aside0.mk (below_step (by repeat (first | (with_reducible first | exact HB.out | apply below_alloc | apply pw_below_drewN | apply below_drew1 | refine below_set ?_ GE253.out | refine below_set ?_ GE254.out | refine below_set ?_ GE259.out | refine below_set ?_ GE263.out | refine below_set ?_ GE269.out | refine below_set ?_ GE275.out | refine below_set ?_ GE281.out | refine below_set ?_ GE287.out) | exact HB.out)) hb)
      clear BK253
      clear BK254
      clear BK259
      clear BK263
      clear BK269
      clear BK275
      clear BK281
      clear BK287
      clear HB
      have BK253 := n0_
      have BK254 := n1_
      have BK259 := n2_
      have BK263 := n3_
      have BK269 := n4_
      have BK275 := n5_
      have BK281 := n6_
      have BK287 := n7_
      have HB := n8_
      clear n0_ n1_ n2_ n3_ n4_ n5_ n6_ n7_ n8_
      (try clear hb)
      (try clear hb2)
      (try clear hk)
      (try clear hi)
      refine hK.out _ _ ⟨(blk_cell BK253.out 0).trans rfl, (blk_cell BK253.out 1).trans rfl⟩ (fun hHeld => ?_)
      clear hK K
      refine norm_ (a' := ?_) ?_ ?_
      rotate_left
      · show Act.put _ (some 61) _ = _
        simp only [Act.put, List.setIfInBounds_toArray, List.set_cons_zero, List.set_cons_succ, i64_w, i32_w]
        rfl
      refine one_ (i := 3) (N := some 63) #[true, true, true, true, false, false, false, false, false, false, false, false, false, false, false, false, false, false, false, false, false, false, false, false, false] rfl rfl (one_of HT_.out (by kernel_rfl)) (by decide) (fun K hK => ?_)
      refine goes_ Try.func17 (by kernel_rfl) rfl #[.agg #[.int .u64 a0_0, .int .u64 a0_1]] (by rfl) rfl rfl (by (try simp only [List.map_toArray, List.map_cons, List.map_nil]); first | done | rfl | (simp only [List.length_drop, List.length_take]; rfl)) ?_
      with_reducible refine (wigwagref19_Left.calls a0_0 a0_1 t289 _ A69.out).mono ?_
      rintro e w92 ⟨rfl, hb⟩
      refine ⟨_, rfl, ?_⟩
      have n0_ := Aside0.mk (blk_below (g := gb253) (o := .cells #[.int .u64 a0_0, .int .u64 a0_1] 25 (0, 0)) (by (with_reducible repeat (first | refine blk_drewN ?_ _ | refine blk_drew ?_ | refine blk_alloc ?_ _)); exact BK253.out) hb)
      have n1_ := Aside0.mk (blk_below (g := gb254) (o := .cells #[.int .u64 a1_0, .int .u64 a1_1, .int .u64 a1_2, .int .u64 a1_3] 27 (0, 0)) (by (with_reducible repeat (first | refine blk_drewN ?_ _ | refine blk_drew ?_ | refine blk_alloc ?_ _)); exact BK254.out) hb)
      have n2_ := Aside0.mk (blk_below (g := gb259) (o := .cells #[.int .u64 t256, .int .u64 t257] 25 (0, 0)) (by (with_reducible repeat (first | refine blk_drewN ?_ _ | refine blk_drew ?_ | refine blk_alloc ?_ _)); exact BK259.out) hb)
      have n3_ := Aside0.mk (blk_below (g := gb263) (o := .cells #[.int .u64 t260, .int .u64 t261] 25 (0, 0)) (by (with_reducible repeat (first | refine blk_drewN ?_ _ | refine blk_drew ?_ | refine blk_alloc ?_ _)); exact BK263.out) hb)
      have n4_ := Aside0.mk (blk_below (g := gb269) (o := .cells #[.int .u64 t264, .int .u64 t265, .int .u64 t266, .int .u64 t267] 27 (0, 0)) (by (with_reducible repeat (first | refine blk_drewN ?_ _ | refine blk_drew ?_ | refine blk_alloc ?_ _)); exact BK269.out) hb)
      have n5_ := Aside0.mk (blk_below (g := gb275) (o := .cells #[.int .u64 t270, .int .u64 t271, .int .u64 t272, .int .u64 t273] 27 (0, 0)) (by (with_reducible repeat (first | refine blk_drewN ?_ _ | refine blk_drew ?_ | refine blk_alloc ?_ _)); exact BK275.out) hb)
      have n6_ := Aside0.mk (blk_below (g := gb281) (o := .cells #[.int .u64 t276, .int .u64 t277, .int .u64 t278, .int .u64 t279] 27 (0, 0)) (by (with_reducible repeat (first | refine blk_drewN ?_ _ | refine blk_drew ?_ | refine blk_alloc ?_ _)); exact BK281.out) hb)
      have n7_ := Aside0.mk (blk_below (g := gb287) (o := .cells #[.int .u64 t282, .int .u64 t283, .int .u64 t284, .int .u64 t285] 27 (0, 0)) (by (with_reducible repeat (first | refine blk_drewN ?_ _ | refine blk_drew ?_ | refine blk_alloc ?_ _)); exact BK287.out) hb)
      have n8_ := Aside0.mk (below_step (by repeat (first | (with_reducible first | exact HB.out | apply below_alloc | apply pw_below_drewN | apply below_drew1 | refine below_set ?_ GE253.out | refine below_set ?_ GE254.out | refine below_set ?_ GE259.out | refine below_set ?_ GE263.out | refine below_set ?_ GE269.out | refine below_set ?_ GE275.out | refine below_set ?_ GE281.out | refine below_set ?_ GE287.out) | exact HB.out)) hb)
      clear BK253
      clear BK254
      clear BK259
      clear BK263
      clear BK269
      clear BK275
      clear BK281
      clear BK287
      clear HB
      have BK253 := n0_
      have BK254 := n1_
      have BK259 := n2_
      have BK263 := n3_
      have BK269 := n4_
      have BK275 := n5_
      have BK281 := n6_
      have BK287 := n7_
      have HB := n8_
      clear n0_ n1_ n2_ n3_ n4_ n5_ n6_ n7_ n8_
      (try clear hb)
      (try clear hb2)
      (try clear hk)
      (try clear hi)
      refine hK.out _ _ ⟨(blk_cell BK253.out 0).trans rfl, (blk_cell BK253.out 1).trans rfl⟩ (fun hHeld => ?_)
      clear hK K
      refine norm_ (a' := ?_) ?_ ?_
      rotate_left
      · show Act.put _ (some 63) _ = _
        simp only [Act.put, List.setIfInBounds_toArray, List.set_cons_zero, List.set_cons_succ, i64_w, i32_w]
        rfl
      refine pure_ (i := 4) (N := some 64) (v := ?_) (a' := ?_) #[true, true, true, true, true, false, false, false, false, false, false, false, false, false, false, false, false, false, false, false, false, false, false, false, false] rfl rfl (any_of HT_.out (by kernel_rfl)) (fun _ _ _ h => h) (Or.inl ⟨by rfl, ?_⟩) ?_ ?_
      rotate_left
      · intro w'
        go_simp
        with_reducible rfl
      rotate_left
      · simp only [Act.put, List.setIfInBounds_toArray, List.set_cons_zero, List.set_cons_succ, i64_w, i32_w]
        rfl
      refine pure_ (i := 5) (N := some 65) (v := ?_) (a' := ?_) #[true, true, true, true, true, true, false, false, false, false, false, false, false, false, false, false, false, false, false, false, false, false, false, false, false] rfl rfl (any_of HT_.out (by kernel_rfl)) (fun _ _ _ h => h) (Or.inl ⟨by rfl, ?_⟩) ?_ ?_
      rotate_left
      · intro w'
        go_simp
        with_reducible rfl
      rotate_left
      · simp only [Act.put, List.setIfInBounds_toArray, List.set_cons_zero, List.set_cons_succ, i64_w, i32_w]
        rfl
      refine pure_ (i := 6) (N := some 66) (v := undef) (a' := ?_) #[true, true, true, true, true, true, true, false, false, false, false, false, false, false, false, false, false, false, false, false, false, false, false, false, false] rfl rfl (any_of HT_.out (by kernel_rfl)) (fun _ _ _ h => h) (Or.inr ⟨by rfl, rfl⟩) ?_ ?_
      rotate_left
      · simp only [Act.put, List.setIfInBounds_toArray, List.set_cons_zero, List.set_cons_succ, i64_w, i32_w]
        rfl
      refine pure_ (i := 7) (N := some 67) (v := undef) (a' := ?_) #[true, true, true, true, true, true, true, true, false, false, false, false, false, false, false, false, false, false, false, false, false, false, false, false, false] rfl rfl (any_of HT_.out (by kernel_rfl)) (fun _ _ _ h => h) (Or.inr ⟨by rfl, rfl⟩) ?_ ?_
      rotate_left
      · simp only [Act.put, List.setIfInBounds_toArray, List.set_cons_zero, List.set_cons_succ, i64_w, i32_w]
        rfl
      refine pure_ (i := 8) (N := some 68) (v := undef) (a' := ?_) #[true, true, true, true, true, true, true, true, true, false, false, false, false, false, false, false, false, false, false, false, false, false, false, false, false] rfl rfl (any_of HT_.out (by kernel_rfl)) (fun _ _ _ h => h) (Or.inr ⟨by rfl, rfl⟩) ?_ ?_
      rotate_left
      · simp only [Act.put, List.setIfInBounds_toArray, List.set_cons_zero, List.set_cons_succ, i64_w, i32_w]
        rfl
      refine pure_ (i := 9) (N := some 69) (v := ?_) (a' := ?_) #[true, true, true, true, true, true, true, true, true, true, false, false, false, false, false, false, false, false, false, false, false, false, false, false, false] rfl rfl (any_of HT_.out (by kernel_rfl)) (fun _ _ _ h => h) (Or.inl ⟨by rfl, ?_⟩) ?_ ?_
      rotate_left
      · intro w'
        go_simp
        with_reducible rfl
      rotate_left
      · simp only [Act.put, List.setIfInBounds_toArray, List.set_cons_zero, List.set_cons_succ, i64_w, i32_w]
        rfl
      refine pure_ (i := 10) (N := some 70) (v := ?_) (a' := ?_) #[true, true, true, true, true, true, true, true, true, true, true, false, false, false, false, false, false, false, false, false, false, false, false, false, false] rfl rfl (any_of HT_.out (by kernel_rfl)) (fun _ _ _ h => h) (Or.inl ⟨by rfl, ?_⟩) ?_ ?_
      rotate_left
      · intro w'
        go_simp
        with_reducible rfl
      rotate_left
      · simp only [Act.put, List.setIfInBounds_toArray, List.set_cons_zero, List.set_cons_succ, i64_w, i32_w]
        rfl
      refine pure_ (i := 11) (N := some 71) (v := undef) (a' := ?_) #[true, true, true, true, true, true, true, true, true, true, true, true, false, false, false, false, false, false, false, false, false, false, false, false, false] rfl rfl (any_of HT_.out (by kernel_rfl)) (fun _ _ _ h => h) (Or.inr ⟨by rfl, rfl⟩) ?_ ?_
      rotate_left
      · simp only [Act.put, List.setIfInBounds_toArray, List.set_cons_zero, List.set_cons_succ, i64_w, i32_w]
        rfl
      refine pure_ (i := 12) (N := some 72) (v := undef) (a' := ?_) #[true, true, true, true, true, true, true, true, true, true, true, true, true, false, false, false, false, false, false, false, false, false, false, false, false] rfl rfl (any_of HT_.out (by kernel_rfl)) (fun _ _ _ h => h) (Or.inr ⟨by rfl, rfl⟩) ?_ ?_
      rotate_left
      · simp only [Act.put, List.setIfInBounds_toArray, List.set_cons_zero, List.set_cons_succ, i64_w, i32_w]
        rfl
      refine pure_ (i := 13) (N := some 73) (v := undef) (a' := ?_) #[true, true, true, true, true, true, true, true, true, true, true, true, true, true, false, false, false, false, false, false, false, false, false, false, false] rfl rfl (any_of HT_.out (by kernel_rfl)) (fun _ _ _ h => h) (Or.inr ⟨by rfl, rfl⟩) ?_ ?_
      rotate_left
      · simp only [Act.put, List.setIfInBounds_toArray, List.set_cons_zero, List.set_cons_succ, i64_w, i32_w]
        rfl
      refine pure_ (i := 14) (N := some 74) (v := ?_) (a' := ?_) #[true, true, true, true, true, true, true, true, true, true, true, true, true, true, true, false, false, false, false, false, false, false, false, false, false] rfl rfl (any_of HT_.out (by kernel_rfl)) (fun _ _ _ h => h) (Or.inl ⟨by rfl, ?_⟩) ?_ ?_
      rotate_left
      · intro w'
        go_simp
        with_reducible rfl
      rotate_left
      · simp only [Act.put, List.setIfInBounds_toArray, List.set_cons_zero, List.set_cons_succ, i64_w, i32_w]
        rfl
      refine pure_ (i := 15) (N := some 75) (v := ?_) (a' := ?_) #[true, true, true, true, true, true, true, true, true, true, true, true, true, true, true, true, false, false, false, false, false, false, false, false, false] rfl rfl (any_of HT_.out (by kernel_rfl)) (fun _ _ _ h => h) (Or.inl ⟨by rfl, ?_⟩) ?_ ?_
      rotate_left
      · intro w'
        go_simp
        with_reducible rfl
      rotate_left
      · simp only [Act.put, List.setIfInBounds_toArray, List.set_cons_zero, List.set_cons_succ, i64_w, i32_w]
        rfl
      refine pure_ (i := 16) (N := some 76) (v := undef) (a' := ?_) #[true, true, true, true, true, true, true, true, true, true, true, true, true, true, true, true, true, false, false, false, false, false, false, false, false] rfl rfl (any_of HT_.out (by kernel_rfl)) (fun _ _ _ h => h) (Or.inr ⟨by rfl, rfl⟩) ?_ ?_
      rotate_left
      · simp only [Act.put, List.setIfInBounds_toArray, List.set_cons_zero, List.set_cons_succ, i64_w, i32_w]
        rfl
      refine pure_ (i := 17) (N := some 77) (v := undef) (a' := ?_) #[true, true, true, true, true, true, true, true, true, true, true, true, true, true, true, true, true, true, false, false, false, false, false, false, false] rfl rfl (any_of HT_.out (by kernel_rfl)) (fun _ _ _ h => h) (Or.inr ⟨by rfl, rfl⟩) ?_ ?_
      rotate_left
      · simp only [Act.put, List.setIfInBounds_toArray, List.set_cons_zero, List.set_cons_succ, i64_w, i32_w]
        rfl
      refine pure_ (i := 18) (N := some 78) (v := undef) (a' := ?_) #[true, true, true, true, true, true, true, true, true, true, true, true, true, true, true, true, true, true, true, false, false, false, false, false, false] rfl rfl (any_of HT_.out (by kernel_rfl)) (fun _ _ _ h => h) (Or.inr ⟨by rfl, rfl⟩) ?_ ?_
      rotate_left
      · simp only [Act.put, List.setIfInBounds_toArray, List.set_cons_zero, List.set_cons_succ, i64_w, i32_w]
        rfl
      refine pure_ (i := 19) (N := some 79) (v := undef) (a' := ?_) #[true, true, true, true, true, true, true, true, true, true, true, true, true, true, true, true, true, true, true, true, false, false, false, false, false] rfl rfl (any_of HT_.out (by kernel_rfl)) (fun _ _ _ h => h) (Or.inr ⟨by rfl, rfl⟩) ?_ ?_
      rotate_left
      · simp only [Act.put, List.setIfInBounds_toArray, List.set_cons_zero, List.set_cons_succ, i64_w, i32_w]
        rfl
      refine pure_ (i := 20) (N := some 80) (v := undef) (a' := ?_) #[true, true, true, true, true, true, true, true, true, true, true, true, true, true, true, true, true, true, true, true, true, false, false, false, false] rfl rfl (any_of HT_.out (by kernel_rfl)) (fun _ _ _ h => h) (Or.inr ⟨by rfl, rfl⟩) ?_ ?_
      rotate_left
      · simp only [Act.put, List.setIfInBounds_toArray, List.set_cons_zero, List.set_cons_succ, i64_w, i32_w]
        rfl
      refine pure_ (i := 21) (N := some 81) (v := undef) (a' := ?_) #[true, true, true, true, true, true, true, true, true, true, true, true, true, true, true, true, true, true, true, true, true, true, false, false, false] rfl rfl (any_of HT_.out (by kernel_rfl)) (fun _ _ _ h => h) (Or.inr ⟨by rfl, rfl⟩) ?_ ?_
      rotate_left
      · simp only [Act.put, List.setIfInBounds_toArray, List.set_cons_zero, List.set_cons_succ, i64_w, i32_w]
        rfl
      refine pure_ (i := 22) (N := some 82) (v := undef) (a' := ?_) #[true, true, true, true, true, true, true, true, true, true, true, true, true, true, true, true, true, true, true, true, true, true, true, false, false] rfl rfl (any_of HT_.out (by kernel_rfl)) (fun _ _ _ h => h) (Or.inr ⟨by rfl, rfl⟩) ?_ ?_
      rotate_left
      · simp only [Act.put, List.setIfInBounds_toArray, List.set_cons_zero, List.set_cons_succ, i64_w, i32_w]
        rfl
      refine pure_ (i := 23) (N := some 83) (v := ?_) (a' := ?_) #[true, true, true, true, true, true, true, true, true, true, true, true, true, true, true, true, true, true, true, true, true, true, true, true, false] rfl rfl (any_of HT_.out (by kernel_rfl)) (fun _ _ _ h => h) (Or.inl ⟨by rfl, ?_⟩) ?_ ?_
      rotate_left
      · intro w'
        go_simp
        with_reducible rfl
      rotate_left
      · simp only [Act.put, List.setIfInBounds_toArray, List.set_cons_zero, List.set_cons_succ, i64_w, i32_w]
        rfl
      refine pure_ (i := 24) (N := some 22) (v := ?_) (a' := ?_) #[true, true, true, true, true, true, true, true, true, true, true, true, true, true, true, true, true, true, true, true, true, true, true, true, true] rfl rfl (any_of HT_.out (by kernel_rfl)) (fun _ _ _ h => h) (Or.inl ⟨by rfl, ?_⟩) ?_ ?_
      rotate_left
      · intro w'
        go_simp
        with_reducible rfl
      rotate_left
      · simp only [Act.put, List.setIfInBounds_toArray, List.set_cons_zero, List.set_cons_succ, i64_w, i32_w]
        rfl
      refine done_ (done_of HT_.out (by kernel_rfl)) ?_
      try go_wp2
      go_meet
      case rel => exact ⟨_, (false), (by first | rfl | (simp; done) | (simp [*]; done)), H', ⟨by first | omega | exact Nat.le_refl _⟩, ⟨by (with_reducible repeat (first | refine blk_drewN ?_ _ | refine blk_drew ?_ | refine blk_alloc ?_ _)); exact BK253.out⟩, ⟨by (with_reducible repeat (first | refine blk_drewN ?_ _ | refine blk_drew ?_ | refine blk_alloc ?_ _)); exact BK254.out⟩, ⟨by (with_reducible repeat (first | refine blk_drewN ?_ _ | refine blk_drew ?_ | refine blk_alloc ?_ _)); exact BK259.out⟩, ⟨by (with_reducible repeat (first | refine blk_drewN ?_ _ | refine blk_drew ?_ | refine blk_alloc ?_ _)); exact BK263.out⟩, ⟨by (with_reducible repeat (first | refine blk_drewN ?_ _ | refine blk_drew ?_ | refine blk_alloc ?_ _)); exact BK269.out⟩, ⟨by (with_reducible repeat (first | refine blk_drewN ?_ _ | refine blk_drew ?_ | refine blk_alloc ?_ _)); exact BK275.out⟩, ⟨by (with_reducible repeat (first | refine blk_drewN ?_ _ | refine blk_drew ?_ | refine blk_alloc ?_ _)); exact BK281.out⟩, ⟨by (with_reducible repeat (first | refine blk_drewN ?_ _ | refine blk_drew ?_ | refine blk_alloc ?_ _)); exact BK287.out⟩, ⟨by repeat (first | (with_reducible first | exact HB.out | apply below_alloc | apply pw_below_drewN | apply below_drew1 | refine below_set ?_ GE253.out | refine below_set ?_ GE254.out | refine below_set ?_ GE259.out | refine below_set ?_ GE263.out | refine below_set ?_ GE269.out | refine below_set ?_ GE275.out | refine below_set ?_ GE281.out | refine below_set ?_ GE287.out) | exact HB.out)⟩⟩
  case rest =>
    clear HC12
    try clear c1
    try clear p2
    try clear c7
    try clear c16
    try clear c17
    try clear c70
    try clear c70b0
    try clear c70b1
    try clear c71
    try clear c71b0
    try clear c71b1
    try clear c71b2
    obtain ⟨kq, x22_11, rfl, HA, HJ11, BK253, BK254, BK259, BK263, BK269, BK275, BK281, BK287, HB⟩ := hcut
    cases kq with
    | zero => exact absurd HA.out (by simp [wigwaglaw19_CreditTells.j0])
    | succ kj11 =>
      have H := HA.out
      clear HA
      simp only [wigwaglaw19_CreditTells.j0] at H
      by_cases c93 : t255 = true
      · subst c93
        have H1 : (if x22_11 = true then (if (t264 == t270 && (t265 == t271 && (t266 == t272 && (t267 == t273)))) = true then (if t268 = t274 then (if (t276 == t282 && (t277 == t283 && (t278 == t284 && (t279 == t285)))) = true then (if (t280 == t286) = true then ((credit_Begin.f a2).bind fun bt294 => ((wigwagref19_Begin.f a2).bind fun bt298 => (if (bt294.1 == bt298.1 && (bt294.2.1 == bt298.2.1 && (bt294.2.2.1 == bt298.2.2.1 && (bt294.2.2.2 == bt298.2.2.2)))) = true then ((credit_Stream.f a2 a3).bind fun t302 => ((wigwagref19_Stream.f a2 a3).bind fun t303 => (some (t302 == t303)))) else (some false)))) else (some false)) else (some false)) else (some false)) else (some false)) else (some false)) = some r := by rw [if_pos rfl] at H; exact H
        clear H
        have H := H1
        clear H1
        by_cases c94 : x22_11 = true
        · subst c94
          have H1 : (if (t264 == t270 && (t265 == t271 && (t266 == t272 && (t267 == t273)))) = true then (if t268 = t274 then (if (t276 == t282 && (t277 == t283 && (t278 == t284 && (t279 == t285)))) = true then (if (t280 == t286) = true then ((credit_Begin.f a2).bind fun bt294 => ((wigwagref19_Begin.f a2).bind fun bt298 => (if (bt294.1 == bt298.1 && (bt294.2.1 == bt298.2.1 && (bt294.2.2.1 == bt298.2.2.1 && (bt294.2.2.2 == bt298.2.2.2)))) = true then ((credit_Stream.f a2 a3).bind fun t302 => ((wigwagref19_Stream.f a2 a3).bind fun t303 => (some (t302 == t303)))) else (some false)))) else (some false)) else (some false)) else (some false)) else (some false)) = some r := by rw [if_pos rfl] at H; exact H
          clear H
          have H := H1
          clear H1
          by_cases c95 : (t264 == t270 && (t265 == t271 && (t266 == t272 && (t267 == t273)))) = true
          · rw [if_pos c95] at H
            have c95b0 : (t264 == t270 && (t265 == t271 && (t266 == t272 && (t267 == t273)))) = true := c95
            (try (have c95b1 : decide (t264 = t270 && (t265 == t271 && (t266 == t272 && (t267 == t273)))) = true := by simpa using c95))
            (try (have c95b2 : (t264 == t270 && (t265 == t271 && (t266 == t272 && (t267 == t273)))) = true := by simpa using c95))
            clear c95
            by_cases c96 : t268 = t274
            · rw [if_pos c96] at H
              have c96b0 : (t268 == t274) = true := beq_iff_eq.mpr c96
              have c96b1 : (t268 != t274) = false := bne_eq_false_iff_eq.mpr c96
              clear c96
              by_cases c97 : (t276 == t282 && (t277 == t283 && (t278 == t284 && (t279 == t285)))) = true
              · rw [if_pos c97] at H
                have c97b0 : (t276 == t282 && (t277 == t283 && (t278 == t284 && (t279 == t285)))) = true := c97
                (try (have c97b1 : decide (t276 = t282 && (t277 == t283 && (t278 == t284 && (t279 == t285)))) = true := by simpa using c97))
                (try (have c97b2 : (t276 == t282 && (t277 == t283 && (t278 == t284 && (t279 == t285)))) = true := by simpa using c97))
                clear c97
                by_cases c98 : (t280 == t286) = true
                · rw [if_pos c98] at H
                  have c98b0 : (t280 == t286) = true := c98
                  (try (have c98b1 : decide (t280 = t286) = true := by simpa using c98))
                  (try (have c98b2 : (t280 == t286) = true := by simpa using c98))
                  clear c98
                  replace H := Option.bind_eq_some_iff.mp H
                  obtain ⟨⟨t294, t295, t296, t297⟩, A990, H⟩ := H
                  replace H : ((wigwagref19_Begin.f a2).bind fun bt298 => (if (t294 == bt298.1 && (t295 == bt298.2.1 && (t296 == bt298.2.2.1 && (t297 == bt298.2.2.2)))) = true then ((credit_Stream.f a2 a3).bind fun t302 => ((wigwagref19_Stream.f a2 a3).bind fun t303 => (some (t302 == t303)))) else (some false))) = some r := H
                  have A99 := Aside0.mk A990
                  clear A990
                  replace H := Option.bind_eq_some_iff.mp H
                  obtain ⟨⟨t298, t299, t300, t301⟩, A1000, H⟩ := H
                  replace H : (if (t294 == t298 && (t295 == t299 && (t296 == t300 && (t297 == t301)))) = true then ((credit_Stream.f a2 a3).bind fun t302 => ((wigwagref19_Stream.f a2 a3).bind fun t303 => (some (t302 == t303)))) else (some false)) = some r := H
                  have A100 := Aside0.mk A1000
                  clear A1000
                  by_cases c101 : (t294 == t298 && (t295 == t299 && (t296 == t300 && (t297 == t301)))) = true
                  · rw [if_pos c101] at H
                    have c101b0 : (t294 == t298 && (t295 == t299 && (t296 == t300 && (t297 == t301)))) = true := c101
                    (try (have c101b1 : decide (t294 = t298 && (t295 == t299 && (t296 == t300 && (t297 == t301)))) = true := by simpa using c101))
                    (try (have c101b2 : (t294 == t298 && (t295 == t299 && (t296 == t300 && (t297 == t301)))) = true := by simpa using c101))
                    clear c101
                    replace H := Option.bind_eq_some_iff.mp H
                    obtain ⟨t302, A1020, H⟩ := H
                    replace H : ((wigwagref19_Stream.f a2 a3).bind fun t303 => (some (t302 == t303))) = some r := H
                    have A102 := Aside0.mk A1020
                    clear A1020
                    replace H := Option.bind_eq_some_iff.mp H
                    obtain ⟨t303, A1030, H⟩ := H
                    replace H : (some (t302 == t303)) = some r := H
                    have A103 := Aside0.mk A1030
                    clear A1030
                    obtain rfl := Option.some.inj H
                    have hnb104 := NB269_253.out
                    have hnc104 := NB253_269.out
                    have hnb105 := NB269_254.out
                    have hnc105 := NB254_269.out
                    have hnb106 := NB269_259.out
                    have hnc106 := NB259_269.out
                    have hnb107 := NB269_263.out
                    have hnc107 := NB263_269.out
                    have hnb108 := NB269_275.out
                    have hnc108 := NB275_269.out
                    have hnb109 := NB269_281.out
                    have hnc109 := NB281_269.out
                    have hnb110 := NB269_287.out
                    have hnc110 := NB287_269.out
                    have hcz111_0 : wc.cell? ⟨gb269, 0, none⟩ = some (.int .u64 t264) := (blk_cell BK269.out 0).trans rfl
                    have hcz111_1 : wc.cell? ⟨gb269, 1, none⟩ = some (.int .u64 t265) := (blk_cell BK269.out 1).trans rfl
                    have hcz111_2 : wc.cell? ⟨gb269, 2, none⟩ = some (.int .u64 t266) := (blk_cell BK269.out 2).trans rfl
                    have hcz111_3 : wc.cell? ⟨gb269, 3, none⟩ = some (.int .u64 t267) := (blk_cell BK269.out 3).trans rfl
                    have hfz111_0 := blk_frozen BK269.out 0
                    have hfz111_1 := blk_frozen BK269.out 1
                    have hfz111_2 := blk_frozen BK269.out 2
                    have hfz111_3 := blk_frozen BK269.out 3
                    have hnb112 := NB275_253.out
                    have hnc112 := NB253_275.out
                    have hnb113 := NB275_254.out
                    have hnc113 := NB254_275.out
                    have hnb114 := NB275_259.out
                    have hnc114 := NB259_275.out
                    have hnb115 := NB275_263.out
                    have hnc115 := NB263_275.out
                    have hnb116 := NB275_281.out
                    have hnc116 := NB281_275.out
                    have hnb117 := NB275_287.out
                    have hnc117 := NB287_275.out
                    have hcz118_0 : wc.cell? ⟨gb275, 0, none⟩ = some (.int .u64 t270) := (blk_cell BK275.out 0).trans rfl
                    have hcz118_1 : wc.cell? ⟨gb275, 1, none⟩ = some (.int .u64 t271) := (blk_cell BK275.out 1).trans rfl
                    have hcz118_2 : wc.cell? ⟨gb275, 2, none⟩ = some (.int .u64 t272) := (blk_cell BK275.out 2).trans rfl
                    have hcz118_3 : wc.cell? ⟨gb275, 3, none⟩ = some (.int .u64 t273) := (blk_cell BK275.out 3).trans rfl
                    have hfz118_0 := blk_frozen BK275.out 0
                    have hfz118_1 := blk_frozen BK275.out 1
                    have hfz118_2 := blk_frozen BK275.out 2
                    have hfz118_3 := blk_frozen BK275.out 3
                    have hnb119 := NB281_253.out
                    have hnc119 := NB253_281.out
                    have hnb120 := NB281_254.out
                    have hnc120 := NB254_281.out
                    have hnb121 := NB281_259.out
                    have hnc121 := NB259_281.out
                    have hnb122 := NB281_263.out
                    have hnc122 := NB263_281.out
                    have hnb123 := NB281_287.out
                    have hnc123 := NB287_281.out
                    have hcz124_0 : wc.cell? ⟨gb281, 0, none⟩ = some (.int .u64 t276) := (blk_cell BK281.out 0).trans rfl
                    have hcz124_1 : wc.cell? ⟨gb281, 1, none⟩ = some (.int .u64 t277) := (blk_cell BK281.out 1).trans rfl
                    have hcz124_2 : wc.cell? ⟨gb281, 2, none⟩ = some (.int .u64 t278) := (blk_cell BK281.out 2).trans rfl
                    have hcz124_3 : wc.cell? ⟨gb281, 3, none⟩ = some (.int .u64 t279) := (blk_cell BK281.out 3).trans rfl
                    have hfz124_0 := blk_frozen BK281.out 0
                    have hfz124_1 := blk_frozen BK281.out 1
                    have hfz124_2 := blk_frozen BK281.out 2
                    have hfz124_3 := blk_frozen BK281.out 3
                    have hnb125 := NB287_253.out
                    have hnc125 := NB253_287.out
                    have hnb126 := NB287_254.out
                    have hnc126 := NB254_287.out
                    have hnb127 := NB287_259.out
                    have hnc127 := NB259_287.out
                    have hnb128 := NB287_263.out
                    have hnc128 := NB263_287.out
                    have hcz129_0 : wc.cell? ⟨gb287, 0, none⟩ = some (.int .u64 t282) := (blk_cell BK287.out 0).trans rfl
                    have hcz129_1 : wc.cell? ⟨gb287, 1, none⟩ = some (.int .u64 t283) := (blk_cell BK287.out 1).trans rfl
                    have hcz129_2 : wc.cell? ⟨gb287, 2, none⟩ = some (.int .u64 t284) := (blk_cell BK287.out 2).trans rfl
                    have hcz129_3 : wc.cell? ⟨gb287, 3, none⟩ = some (.int .u64 t285) := (blk_cell BK287.out 3).trans rfl
                    have hfz129_0 := blk_frozen BK287.out 0
                    have hfz129_1 := blk_frozen BK287.out 1
                    have hfz129_2 := blk_frozen BK287.out 2
                    have hfz129_3 := blk_frozen BK287.out 3
                    go_wp2_with (first | (go_at_call 20; (with_reducible refine (credit_Begin.calls a2 t294 t295 t296 t297 _ A99.out).mono ?_); rintro e w130 ⟨rfl, hb⟩; have n0_ := Aside0.mk (blk_below (g := gb253) (o := .cells #[.int .u64 a0_0, .int .u64 a0_1] 25 (0, 0)) (by (with_reducible repeat (first | refine blk_drewN ?_ _ | refine blk_drew ?_ | refine blk_alloc ?_ _)); exact BK253.out) hb); have n1_ := Aside0.mk (blk_below (g := gb254) (o := .cells #[.int .u64 a1_0, .int .u64 a1_1, .int .u64 a1_2, .int .u64 a1_3] 27 (0, 0)) (by (with_reducible repeat (first | refine blk_drewN ?_ _ | refine blk_drew ?_ | refine blk_alloc ?_ _)); exact BK254.out) hb); have n2_ := Aside0.mk (blk_below (g := gb259) (o := .cells #[.int .u64 t256, .int .u64 t257] 25 (0, 0)) (by (with_reducible repeat (first | refine blk_drewN ?_ _ | refine blk_drew ?_ | refine blk_alloc ?_ _)); exact BK259.out) hb); have n3_ := Aside0.mk (blk_below (g := gb263) (o := .cells #[.int .u64 t260, .int .u64 t261] 25 (0, 0)) (by (with_reducible repeat (first | refine blk_drewN ?_ _ | refine blk_drew ?_ | refine blk_alloc ?_ _)); exact BK263.out) hb); have n4_ := Aside0.mk (blk_below (g := gb269) (o := .cells #[.int .u64 t264, .int .u64 t265, .int .u64 t266, .int .u64 t267] 27 (0, 0)) (by (with_reducible repeat (first | refine blk_drewN ?_ _ | refine blk_drew ?_ | refine blk_alloc ?_ _)); exact BK269.out) hb); have n5_ := Aside0.mk (blk_below (g := gb275) (o := .cells #[.int .u64 t270, .int .u64 t271, .int .u64 t272, .int .u64 t273] 27 (0, 0)) (by (with_reducible repeat (first | refine blk_drewN ?_ _ | refine blk_drew ?_ | refine blk_alloc ?_ _)); exact BK275.out) hb); have n6_ := Aside0.mk (blk_below (g := gb281) (o := .cells #[.int .u64 t276, .int .u64 t277, .int .u64 t278, .int .u64 t279] 27 (0, 0)) (by (with_reducible repeat (first | refine blk_drewN ?_ _ | refine blk_drew ?_ | refine blk_alloc ?_ _)); exact BK281.out) hb); have n7_ := Aside0.mk (blk_below (g := gb287) (o := .cells #[.int .u64 t282, .int .u64 t283, .int .u64 t284, .int .u64 t285] 27 (0, 0)) (by (with_reducible repeat (first | refine blk_drewN ?_ _ | refine blk_drew ?_ | refine blk_alloc ?_ _)); exact BK287.out) hb); have n8_ := Aside0.mk (below_step (by repeat (first | (with_reducible first | exact HB.out | apply below_alloc | apply pw_below_drewN | apply below_drew1 | refine below_set ?_ GE253.out | refine below_set ?_ GE254.out | refine below_set ?_ GE259.out | refine below_set ?_ GE263.out | refine below_set ?_ GE269.out | refine below_set ?_ GE275.out | refine below_set ?_ GE281.out | refine below_set ?_ GE287.out) | exact HB.out)) hb); clear BK253; clear BK254; clear BK259; clear BK263; clear BK269; clear BK275; clear BK281; clear BK287; clear HB; have BK253 := n0_; have BK254 := n1_; have BK259 := n2_; have BK263 := n3_; have BK269 := n4_; have BK275 := n5_; have BK281 := n6_; have BK287 := n7_; have HB := n8_; clear n0_ n1_ n2_ n3_ n4_ n5_ n6_ n7_ n8_; (try clear hb); (try clear hb2); (try clear hk); (try clear hi)) | (go_at_call 21; (with_reducible refine (wigwagref19_Begin.calls a2 t298 t299 t300 t301 _ A100.out).mono ?_); rintro e w131 ⟨rfl, hb⟩; have n0_ := Aside0.mk (blk_below (g := gb253) (o := .cells #[.int .u64 a0_0, .int .u64 a0_1] 25 (0, 0)) (by (with_reducible repeat (first | refine blk_drewN ?_ _ | refine blk_drew ?_ | refine blk_alloc ?_ _)); exact BK253.out) hb); have n1_ := Aside0.mk (blk_below (g := gb254) (o := .cells #[.int .u64 a1_0, .int .u64 a1_1, .int .u64 a1_2, .int .u64 a1_3] 27 (0, 0)) (by (with_reducible repeat (first | refine blk_drewN ?_ _ | refine blk_drew ?_ | refine blk_alloc ?_ _)); exact BK254.out) hb); have n2_ := Aside0.mk (blk_below (g := gb259) (o := .cells #[.int .u64 t256, .int .u64 t257] 25 (0, 0)) (by (with_reducible repeat (first | refine blk_drewN ?_ _ | refine blk_drew ?_ | refine blk_alloc ?_ _)); exact BK259.out) hb); have n3_ := Aside0.mk (blk_below (g := gb263) (o := .cells #[.int .u64 t260, .int .u64 t261] 25 (0, 0)) (by (with_reducible repeat (first | refine blk_drewN ?_ _ | refine blk_drew ?_ | refine blk_alloc ?_ _)); exact BK263.out) hb); have n4_ := Aside0.mk (blk_below (g := gb269) (o := .cells #[.int .u64 t264, .int .u64 t265, .int .u64 t266, .int .u64 t267] 27 (0, 0)) (by (with_reducible repeat (first | refine blk_drewN ?_ _ | refine blk_drew ?_ | refine blk_alloc ?_ _)); exact BK269.out) hb); have n5_ := Aside0.mk (blk_below (g := gb275) (o := .cells #[.int .u64 t270, .int .u64 t271, .int .u64 t272, .int .u64 t273] 27 (0, 0)) (by (with_reducible repeat (first | refine blk_drewN ?_ _ | refine blk_drew ?_ | refine blk_alloc ?_ _)); exact BK275.out) hb); have n6_ := Aside0.mk (blk_below (g := gb281) (o := .cells #[.int .u64 t276, .int .u64 t277, .int .u64 t278, .int .u64 t279] 27 (0, 0)) (by (with_reducible repeat (first | refine blk_drewN ?_ _ | refine blk_drew ?_ | refine blk_alloc ?_ _)); exact BK281.out) hb); have n7_ := Aside0.mk (blk_below (g := gb287) (o := .cells #[.int .u64 t282, .int .u64 t283, .int .u64 t284, .int .u64 t285] 27 (0, 0)) (by (with_reducible repeat (first | refine blk_drewN ?_ _ | refine blk_drew ?_ | refine blk_alloc ?_ _)); exact BK287.out) hb); have n8_ := Aside0.mk (below_step (by repeat (first | (with_reducible first | exact HB.out | apply below_alloc | apply pw_below_drewN | apply below_drew1 | refine below_set ?_ GE253.out | refine below_set ?_ GE254.out | refine below_set ?_ GE259.out | refine below_set ?_ GE263.out | refine below_set ?_ GE269.out | refine below_set ?_ GE275.out | refine below_set ?_ GE281.out | refine below_set ?_ GE287.out) | exact HB.out)) hb); clear BK253; clear BK254; clear BK259; clear BK263; clear BK269; clear BK275; clear BK281; clear BK287; clear HB; have BK253 := n0_; have BK254 := n1_; have BK259 := n2_; have BK263 := n3_; have BK269 := n4_; have BK275 := n5_; have BK281 := n6_; have BK287 := n7_; have HB := n8_; clear n0_ n1_ n2_ n3_ n4_ n5_ n6_ n7_ n8_; (try clear hb); (try clear hb2); (try clear hk); (try clear hi)) | (go_at_call 22; (with_reducible refine (credit_Stream.calls a2 a3 t302 _ A102.out).mono ?_); rintro e w' ⟨rfl, ⟨nd, rfl⟩⟩) | (go_at_call 23; (with_reducible refine (wigwagref19_Stream.calls a2 a3 t303 _ A103.out).mono ?_); rintro e w' ⟨rfl, ⟨nd, rfl⟩⟩))
                    go_ret
                    exact ⟨by first | rfl | (simp [errW_none, errW_some] <;> rfl) | (simp [*, errW_none, errW_some] <;> rfl), by repeat (first | (with_reducible first | exact HB.out | apply below_alloc | apply pw_below_drewN | apply below_drew1 | refine below_set ?_ GE253.out | refine below_set ?_ GE254.out | refine below_set ?_ GE259.out | refine below_set ?_ GE263.out | refine below_set ?_ GE269.out | refine below_set ?_ GE275.out | refine below_set ?_ GE281.out | refine below_set ?_ GE287.out) | exact HB.out)⟩
                  · rw [if_neg c101] at H
                    have c101b0 : (t294 == t298 && (t295 == t299 && (t296 == t300 && (t297 == t301)))) = false := by simpa using c101
                    (try (have c101b1 : decide (t294 = t298 && (t295 == t299 && (t296 == t300 && (t297 == t301)))) = false := by simpa using c101))
                    (try (have c101b2 : (t294 == t298 && (t295 == t299 && (t296 == t300 && (t297 == t301)))) = false := by simpa using c101))
                    (try (have c101b3 : ¬ (t294 = t298 && (t295 == t299 && (t296 == t300 && (t297 == t301)))) := by simpa using c101))
                    clear c101
                    obtain rfl := Option.some.inj H
                    have hnb132 := NB269_253.out
                    have hnc132 := NB253_269.out
                    have hnb133 := NB269_254.out
                    have hnc133 := NB254_269.out
                    have hnb134 := NB269_259.out
                    have hnc134 := NB259_269.out
                    have hnb135 := NB269_263.out
                    have hnc135 := NB263_269.out
                    have hnb136 := NB269_275.out
                    have hnc136 := NB275_269.out
                    have hnb137 := NB269_281.out
                    have hnc137 := NB281_269.out
                    have hnb138 := NB269_287.out
                    have hnc138 := NB287_269.out
                    have hcz139_0 : wc.cell? ⟨gb269, 0, none⟩ = some (.int .u64 t264) := (blk_cell BK269.out 0).trans rfl
                    have hcz139_1 : wc.cell? ⟨gb269, 1, none⟩ = some (.int .u64 t265) := (blk_cell BK269.out 1).trans rfl
                    have hcz139_2 : wc.cell? ⟨gb269, 2, none⟩ = some (.int .u64 t266) := (blk_cell BK269.out 2).trans rfl
                    have hcz139_3 : wc.cell? ⟨gb269, 3, none⟩ = some (.int .u64 t267) := (blk_cell BK269.out 3).trans rfl
                    have hfz139_0 := blk_frozen BK269.out 0
                    have hfz139_1 := blk_frozen BK269.out 1
                    have hfz139_2 := blk_frozen BK269.out 2
                    have hfz139_3 := blk_frozen BK269.out 3
                    have hnb140 := NB275_253.out
                    have hnc140 := NB253_275.out
                    have hnb141 := NB275_254.out
                    have hnc141 := NB254_275.out
                    have hnb142 := NB275_259.out
                    have hnc142 := NB259_275.out
                    have hnb143 := NB275_263.out
                    have hnc143 := NB263_275.out
                    have hnb144 := NB275_281.out
                    have hnc144 := NB281_275.out
                    have hnb145 := NB275_287.out
                    have hnc145 := NB287_275.out
                    have hcz146_0 : wc.cell? ⟨gb275, 0, none⟩ = some (.int .u64 t270) := (blk_cell BK275.out 0).trans rfl
                    have hcz146_1 : wc.cell? ⟨gb275, 1, none⟩ = some (.int .u64 t271) := (blk_cell BK275.out 1).trans rfl
                    have hcz146_2 : wc.cell? ⟨gb275, 2, none⟩ = some (.int .u64 t272) := (blk_cell BK275.out 2).trans rfl
                    have hcz146_3 : wc.cell? ⟨gb275, 3, none⟩ = some (.int .u64 t273) := (blk_cell BK275.out 3).trans rfl
                    have hfz146_0 := blk_frozen BK275.out 0
                    have hfz146_1 := blk_frozen BK275.out 1
                    have hfz146_2 := blk_frozen BK275.out 2
                    have hfz146_3 := blk_frozen BK275.out 3
                    have hnb147 := NB281_253.out
                    have hnc147 := NB253_281.out
                    have hnb148 := NB281_254.out
                    have hnc148 := NB254_281.out
                    have hnb149 := NB281_259.out
                    have hnc149 := NB259_281.out
                    have hnb150 := NB281_263.out
                    have hnc150 := NB263_281.out
                    have hnb151 := NB281_287.out
                    have hnc151 := NB287_281.out
                    have hcz152_0 : wc.cell? ⟨gb281, 0, none⟩ = some (.int .u64 t276) := (blk_cell BK281.out 0).trans rfl
                    have hcz152_1 : wc.cell? ⟨gb281, 1, none⟩ = some (.int .u64 t277) := (blk_cell BK281.out 1).trans rfl
                    have hcz152_2 : wc.cell? ⟨gb281, 2, none⟩ = some (.int .u64 t278) := (blk_cell BK281.out 2).trans rfl
                    have hcz152_3 : wc.cell? ⟨gb281, 3, none⟩ = some (.int .u64 t279) := (blk_cell BK281.out 3).trans rfl
                    have hfz152_0 := blk_frozen BK281.out 0
                    have hfz152_1 := blk_frozen BK281.out 1
                    have hfz152_2 := blk_frozen BK281.out 2
                    have hfz152_3 := blk_frozen BK281.out 3
                    have hnb153 := NB287_253.out
                    have hnc153 := NB253_287.out
                    have hnb154 := NB287_254.out
                    have hnc154 := NB254_287.out
                    have hnb155 := NB287_259.out
                    have hnc155 := NB259_287.out
                    have hnb156 := NB287_263.out
                    have hnc156 := NB263_287.out
                    have hcz157_0 : wc.cell? ⟨gb287, 0, none⟩ = some (.int .u64 t282) := (blk_cell BK287.out 0).trans rfl
                    have hcz157_1 : wc.cell? ⟨gb287, 1, none⟩ = some (.int .u64 t283) := (blk_cell BK287.out 1).trans rfl
                    have hcz157_2 : wc.cell? ⟨gb287, 2, none⟩ = some (.int .u64 t284) := (blk_cell BK287.out 2).trans rfl
                    have hcz157_3 : wc.cell? ⟨gb287, 3, none⟩ = some (.int .u64 t285) := (blk_cell BK287.out 3).trans rfl
                    have hfz157_0 := blk_frozen BK287.out 0
                    have hfz157_1 := blk_frozen BK287.out 1
                    have hfz157_2 := blk_frozen BK287.out 2
                    have hfz157_3 := blk_frozen BK287.out 3
                    go_wp2_with (first | (go_at_call 20; (with_reducible refine (credit_Begin.calls a2 t294 t295 t296 t297 _ A99.out).mono ?_); rintro e w158 ⟨rfl, hb⟩; have n0_ := Aside0.mk (blk_below (g := gb253) (o := .cells #[.int .u64 a0_0, .int .u64 a0_1] 25 (0, 0)) (by (with_reducible repeat (first | refine blk_drewN ?_ _ | refine blk_drew ?_ | refine blk_alloc ?_ _)); exact BK253.out) hb); have n1_ := Aside0.mk (blk_below (g := gb254) (o := .cells #[.int .u64 a1_0, .int .u64 a1_1, .int .u64 a1_2, .int .u64 a1_3] 27 (0, 0)) (by (with_reducible repeat (first | refine blk_drewN ?_ _ | refine blk_drew ?_ | refine blk_alloc ?_ _)); exact BK254.out) hb); have n2_ := Aside0.mk (blk_below (g := gb259) (o := .cells #[.int .u64 t256, .int .u64 t257] 25 (0, 0)) (by (with_reducible repeat (first | refine blk_drewN ?_ _ | refine blk_drew ?_ | refine blk_alloc ?_ _)); exact BK259.out) hb); have n3_ := Aside0.mk (blk_below (g := gb263) (o := .cells #[.int .u64 t260, .int .u64 t261] 25 (0, 0)) (by (with_reducible repeat (first | refine blk_drewN ?_ _ | refine blk_drew ?_ | refine blk_alloc ?_ _)); exact BK263.out) hb); have n4_ := Aside0.mk (blk_below (g := gb269) (o := .cells #[.int .u64 t264, .int .u64 t265, .int .u64 t266, .int .u64 t267] 27 (0, 0)) (by (with_reducible repeat (first | refine blk_drewN ?_ _ | refine blk_drew ?_ | refine blk_alloc ?_ _)); exact BK269.out) hb); have n5_ := Aside0.mk (blk_below (g := gb275) (o := .cells #[.int .u64 t270, .int .u64 t271, .int .u64 t272, .int .u64 t273] 27 (0, 0)) (by (with_reducible repeat (first | refine blk_drewN ?_ _ | refine blk_drew ?_ | refine blk_alloc ?_ _)); exact BK275.out) hb); have n6_ := Aside0.mk (blk_below (g := gb281) (o := .cells #[.int .u64 t276, .int .u64 t277, .int .u64 t278, .int .u64 t279] 27 (0, 0)) (by (with_reducible repeat (first | refine blk_drewN ?_ _ | refine blk_drew ?_ | refine blk_alloc ?_ _)); exact BK281.out) hb); have n7_ := Aside0.mk (blk_below (g := gb287) (o := .cells #[.int .u64 t282, .int .u64 t283, .int .u64 t284, .int .u64 t285] 27 (0, 0)) (by (with_reducible repeat (first | refine blk_drewN ?_ _ | refine blk_drew ?_ | refine blk_alloc ?_ _)); exact BK287.out) hb); have n8_ := Aside0.mk (below_step (by repeat (first | (with_reducible first | exact HB.out | apply below_alloc | apply pw_below_drewN | apply below_drew1 | refine below_set ?_ GE253.out | refine below_set ?_ GE254.out | refine below_set ?_ GE259.out | refine below_set ?_ GE263.out | refine below_set ?_ GE269.out | refine below_set ?_ GE275.out | refine below_set ?_ GE281.out | refine below_set ?_ GE287.out) | exact HB.out)) hb); clear BK253; clear BK254; clear BK259; clear BK263; clear BK269; clear BK275; clear BK281; clear BK287; clear HB; have BK253 := n0_; have BK254 := n1_; have BK259 := n2_; have BK263 := n3_; have BK269 := n4_; have BK275 := n5_; have BK281 := n6_; have BK287 := n7_; have HB := n8_; clear n0_ n1_ n2_ n3_ n4_ n5_ n6_ n7_ n8_; (try clear hb); (try clear hb2); (try clear hk); (try clear hi)) | (go_at_call 21; (with_reducible refine (wigwagref19_Begin.calls a2 t298 t299 t300 t301 _ A100.out).mono ?_); rintro e w159 ⟨rfl, hb⟩; have n0_ := Aside0.mk (blk_below (g := gb253) (o := .cells #[.int .u64 a0_0, .int .u64 a0_1] 25 (0, 0)) (by (with_reducible repeat (first | refine blk_drewN ?_ _ | refine blk_drew ?_ | refine blk_alloc ?_ _)); exact BK253.out) hb); have n1_ := Aside0.mk (blk_below (g := gb254) (o := .cells #[.int .u64 a1_0, .int .u64 a1_1, .int .u64 a1_2, .int .u64 a1_3] 27 (0, 0)) (by (with_reducible repeat (first | refine blk_drewN ?_ _ | refine blk_drew ?_ | refine blk_alloc ?_ _)); exact BK254.out) hb); have n2_ := Aside0.mk (blk_below (g := gb259) (o := .cells #[.int .u64 t256, .int .u64 t257] 25 (0, 0)) (by (with_reducible repeat (first | refine blk_drewN ?_ _ | refine blk_drew ?_ | refine blk_alloc ?_ _)); exact BK259.out) hb); have n3_ := Aside0.mk (blk_below (g := gb263) (o := .cells #[.int .u64 t260, .int .u64 t261] 25 (0, 0)) (by (with_reducible repeat (first | refine blk_drewN ?_ _ | refine blk_drew ?_ | refine blk_alloc ?_ _)); exact BK263.out) hb); have n4_ := Aside0.mk (blk_below (g := gb269) (o := .cells #[.int .u64 t264, .int .u64 t265, .int .u64 t266, .int .u64 t267] 27 (0, 0)) (by (with_reducible repeat (first | refine blk_drewN ?_ _ | refine blk_drew ?_ | refine blk_alloc ?_ _)); exact BK269.out) hb); have n5_ := Aside0.mk (blk_below (g := gb275) (o := .cells #[.int .u64 t270, .int .u64 t271, .int .u64 t272, .int .u64 t273] 27 (0, 0)) (by (with_reducible repeat (first | refine blk_drewN ?_ _ | refine blk_drew ?_ | refine blk_alloc ?_ _)); exact BK275.out) hb); have n6_ := Aside0.mk (blk_below (g := gb281) (o := .cells #[.int .u64 t276, .int .u64 t277, .int .u64 t278, .int .u64 t279] 27 (0, 0)) (by (with_reducible repeat (first | refine blk_drewN ?_ _ | refine blk_drew ?_ | refine blk_alloc ?_ _)); exact BK281.out) hb); have n7_ := Aside0.mk (blk_below (g := gb287) (o := .cells #[.int .u64 t282, .int .u64 t283, .int .u64 t284, .int .u64 t285] 27 (0, 0)) (by (with_reducible repeat (first | refine blk_drewN ?_ _ | refine blk_drew ?_ | refine blk_alloc ?_ _)); exact BK287.out) hb); have n8_ := Aside0.mk (below_step (by repeat (first | (with_reducible first | exact HB.out | apply below_alloc | apply pw_below_drewN | apply below_drew1 | refine below_set ?_ GE253.out | refine below_set ?_ GE254.out | refine below_set ?_ GE259.out | refine below_set ?_ GE263.out | refine below_set ?_ GE269.out | refine below_set ?_ GE275.out | refine below_set ?_ GE281.out | refine below_set ?_ GE287.out) | exact HB.out)) hb); clear BK253; clear BK254; clear BK259; clear BK263; clear BK269; clear BK275; clear BK281; clear BK287; clear HB; have BK253 := n0_; have BK254 := n1_; have BK259 := n2_; have BK263 := n3_; have BK269 := n4_; have BK275 := n5_; have BK281 := n6_; have BK287 := n7_; have HB := n8_; clear n0_ n1_ n2_ n3_ n4_ n5_ n6_ n7_ n8_; (try clear hb); (try clear hb2); (try clear hk); (try clear hi)))
                    go_ret
                    exact ⟨by first | rfl | (simp [errW_none, errW_some] <;> rfl) | (simp [*, errW_none, errW_some] <;> rfl), by repeat (first | (with_reducible first | exact HB.out | apply below_alloc | apply pw_below_drewN | apply below_drew1 | refine below_set ?_ GE253.out | refine below_set ?_ GE254.out | refine below_set ?_ GE259.out | refine below_set ?_ GE263.out | refine below_set ?_ GE269.out | refine below_set ?_ GE275.out | refine below_set ?_ GE281.out | refine below_set ?_ GE287.out) | exact HB.out)⟩
                · rw [if_neg c98] at H
                  have c98b0 : (t280 == t286) = false := by simpa using c98
                  (try (have c98b1 : decide (t280 = t286) = false := by simpa using c98))
                  (try (have c98b2 : (t280 == t286) = false := by simpa using c98))
                  (try (have c98b3 : ¬ (t280 = t286) := by simpa using c98))
                  clear c98
                  obtain rfl := Option.some.inj H
                  have hnb160 := NB269_253.out
                  have hnc160 := NB253_269.out
                  have hnb161 := NB269_254.out
                  have hnc161 := NB254_269.out
                  have hnb162 := NB269_259.out
                  have hnc162 := NB259_269.out
                  have hnb163 := NB269_263.out
                  have hnc163 := NB263_269.out
                  have hnb164 := NB269_275.out
                  have hnc164 := NB275_269.out
                  have hnb165 := NB269_281.out
                  have hnc165 := NB281_269.out
                  have hnb166 := NB269_287.out
                  have hnc166 := NB287_269.out
                  have hcz167_0 : wc.cell? ⟨gb269, 0, none⟩ = some (.int .u64 t264) := (blk_cell BK269.out 0).trans rfl
                  have hcz167_1 : wc.cell? ⟨gb269, 1, none⟩ = some (.int .u64 t265) := (blk_cell BK269.out 1).trans rfl
                  have hcz167_2 : wc.cell? ⟨gb269, 2, none⟩ = some (.int .u64 t266) := (blk_cell BK269.out 2).trans rfl
                  have hcz167_3 : wc.cell? ⟨gb269, 3, none⟩ = some (.int .u64 t267) := (blk_cell BK269.out 3).trans rfl
                  have hfz167_0 := blk_frozen BK269.out 0
                  have hfz167_1 := blk_frozen BK269.out 1
                  have hfz167_2 := blk_frozen BK269.out 2
                  have hfz167_3 := blk_frozen BK269.out 3
                  have hnb168 := NB275_253.out
                  have hnc168 := NB253_275.out
                  have hnb169 := NB275_254.out
                  have hnc169 := NB254_275.out
                  have hnb170 := NB275_259.out
                  have hnc170 := NB259_275.out
                  have hnb171 := NB275_263.out
                  have hnc171 := NB263_275.out
                  have hnb172 := NB275_281.out
                  have hnc172 := NB281_275.out
                  have hnb173 := NB275_287.out
                  have hnc173 := NB287_275.out
                  have hcz174_0 : wc.cell? ⟨gb275, 0, none⟩ = some (.int .u64 t270) := (blk_cell BK275.out 0).trans rfl
                  have hcz174_1 : wc.cell? ⟨gb275, 1, none⟩ = some (.int .u64 t271) := (blk_cell BK275.out 1).trans rfl
                  have hcz174_2 : wc.cell? ⟨gb275, 2, none⟩ = some (.int .u64 t272) := (blk_cell BK275.out 2).trans rfl
                  have hcz174_3 : wc.cell? ⟨gb275, 3, none⟩ = some (.int .u64 t273) := (blk_cell BK275.out 3).trans rfl
                  have hfz174_0 := blk_frozen BK275.out 0
                  have hfz174_1 := blk_frozen BK275.out 1
                  have hfz174_2 := blk_frozen BK275.out 2
                  have hfz174_3 := blk_frozen BK275.out 3
                  have hnb175 := NB281_253.out
                  have hnc175 := NB253_281.out
                  have hnb176 := NB281_254.out
                  have hnc176 := NB254_281.out
                  have hnb177 := NB281_259.out
                  have hnc177 := NB259_281.out
                  have hnb178 := NB281_263.out
                  have hnc178 := NB263_281.out
                  have hnb179 := NB281_287.out
                  have hnc179 := NB287_281.out
                  have hcz180_0 : wc.cell? ⟨gb281, 0, none⟩ = some (.int .u64 t276) := (blk_cell BK281.out 0).trans rfl
                  have hcz180_1 : wc.cell? ⟨gb281, 1, none⟩ = some (.int .u64 t277) := (blk_cell BK281.out 1).trans rfl
                  have hcz180_2 : wc.cell? ⟨gb281, 2, none⟩ = some (.int .u64 t278) := (blk_cell BK281.out 2).trans rfl
                  have hcz180_3 : wc.cell? ⟨gb281, 3, none⟩ = some (.int .u64 t279) := (blk_cell BK281.out 3).trans rfl
                  have hfz180_0 := blk_frozen BK281.out 0
                  have hfz180_1 := blk_frozen BK281.out 1
                  have hfz180_2 := blk_frozen BK281.out 2
                  have hfz180_3 := blk_frozen BK281.out 3
                  have hnb181 := NB287_253.out
                  have hnc181 := NB253_287.out
                  have hnb182 := NB287_254.out
                  have hnc182 := NB254_287.out
                  have hnb183 := NB287_259.out
                  have hnc183 := NB259_287.out
                  have hnb184 := NB287_263.out
                  have hnc184 := NB263_287.out
                  have hcz185_0 : wc.cell? ⟨gb287, 0, none⟩ = some (.int .u64 t282) := (blk_cell BK287.out 0).trans rfl
                  have hcz185_1 : wc.cell? ⟨gb287, 1, none⟩ = some (.int .u64 t283) := (blk_cell BK287.out 1).trans rfl
                  have hcz185_2 : wc.cell? ⟨gb287, 2, none⟩ = some (.int .u64 t284) := (blk_cell BK287.out 2).trans rfl
                  have hcz185_3 : wc.cell? ⟨gb287, 3, none⟩ = some (.int .u64 t285) := (blk_cell BK287.out 3).trans rfl
                  have hfz185_0 := blk_frozen BK287.out 0
                  have hfz185_1 := blk_frozen BK287.out 1
                  have hfz185_2 := blk_frozen BK287.out 2
                  have hfz185_3 := blk_frozen BK287.out 3
                  go_wp2
                  go_ret
                  exact ⟨by first | rfl | (simp [errW_none, errW_some] <;> rfl) | (simp [*, errW_none, errW_some] <;> rfl), by repeat (first | (with_reducible first | exact HB.out | apply below_alloc | apply pw_below_drewN | apply below_drew1 | refine below_set ?_ GE253.out | refine below_set ?_ GE254.out | refine below_set ?_ GE259.out | refine below_set ?_ GE263.out | refine below_set ?_ GE269.out | refine below_set ?_ GE275.out | refine below_set ?_ GE281.out | refine below_set ?_ GE287.out) | exact HB.out)⟩
              · rw [if_neg c97] at H
                have c97b0 : (t276 == t282 && (t277 == t283 && (t278 == t284 && (t279 == t285)))) = false := by simpa using c97
                (try (have c97b1 : decide (t276 = t282 && (t277 == t283 && (t278 == t284 && (t279 == t285)))) = false := by simpa using c97))
                (try (have c97b2 : (t276 == t282 && (t277 == t283 && (t278 == t284 && (t279 == t285)))) = false := by simpa using c97))
                (try (have c97b3 : ¬ (t276 = t282 && (t277 == t283 && (t278 == t284 && (t279 == t285)))) := by simpa using c97))
                clear c97
                obtain rfl := Option.some.inj H
                have hnb186 := NB269_253.out
                have hnc186 := NB253_269.out
                have hnb187 := NB269_254.out
                have hnc187 := NB254_269.out
                have hnb188 := NB269_259.out
                have hnc188 := NB259_269.out
                have hnb189 := NB269_263.out
                have hnc189 := NB263_269.out
                have hnb190 := NB269_275.out
                have hnc190 := NB275_269.out
                have hnb191 := NB269_281.out
                have hnc191 := NB281_269.out
                have hnb192 := NB269_287.out
                have hnc192 := NB287_269.out
                have hcz193_0 : wc.cell? ⟨gb269, 0, none⟩ = some (.int .u64 t264) := (blk_cell BK269.out 0).trans rfl
                have hcz193_1 : wc.cell? ⟨gb269, 1, none⟩ = some (.int .u64 t265) := (blk_cell BK269.out 1).trans rfl
                have hcz193_2 : wc.cell? ⟨gb269, 2, none⟩ = some (.int .u64 t266) := (blk_cell BK269.out 2).trans rfl
                have hcz193_3 : wc.cell? ⟨gb269, 3, none⟩ = some (.int .u64 t267) := (blk_cell BK269.out 3).trans rfl
                have hfz193_0 := blk_frozen BK269.out 0
                have hfz193_1 := blk_frozen BK269.out 1
                have hfz193_2 := blk_frozen BK269.out 2
                have hfz193_3 := blk_frozen BK269.out 3
                have hnb194 := NB275_253.out
                have hnc194 := NB253_275.out
                have hnb195 := NB275_254.out
                have hnc195 := NB254_275.out
                have hnb196 := NB275_259.out
                have hnc196 := NB259_275.out
                have hnb197 := NB275_263.out
                have hnc197 := NB263_275.out
                have hnb198 := NB275_281.out
                have hnc198 := NB281_275.out
                have hnb199 := NB275_287.out
                have hnc199 := NB287_275.out
                have hcz200_0 : wc.cell? ⟨gb275, 0, none⟩ = some (.int .u64 t270) := (blk_cell BK275.out 0).trans rfl
                have hcz200_1 : wc.cell? ⟨gb275, 1, none⟩ = some (.int .u64 t271) := (blk_cell BK275.out 1).trans rfl
                have hcz200_2 : wc.cell? ⟨gb275, 2, none⟩ = some (.int .u64 t272) := (blk_cell BK275.out 2).trans rfl
                have hcz200_3 : wc.cell? ⟨gb275, 3, none⟩ = some (.int .u64 t273) := (blk_cell BK275.out 3).trans rfl
                have hfz200_0 := blk_frozen BK275.out 0
                have hfz200_1 := blk_frozen BK275.out 1
                have hfz200_2 := blk_frozen BK275.out 2
                have hfz200_3 := blk_frozen BK275.out 3
                have hnb201 := NB281_253.out
                have hnc201 := NB253_281.out
                have hnb202 := NB281_254.out
                have hnc202 := NB254_281.out
                have hnb203 := NB281_259.out
                have hnc203 := NB259_281.out
                have hnb204 := NB281_263.out
                have hnc204 := NB263_281.out
                have hnb205 := NB281_287.out
                have hnc205 := NB287_281.out
                have hcz206_0 : wc.cell? ⟨gb281, 0, none⟩ = some (.int .u64 t276) := (blk_cell BK281.out 0).trans rfl
                have hcz206_1 : wc.cell? ⟨gb281, 1, none⟩ = some (.int .u64 t277) := (blk_cell BK281.out 1).trans rfl
                have hcz206_2 : wc.cell? ⟨gb281, 2, none⟩ = some (.int .u64 t278) := (blk_cell BK281.out 2).trans rfl
                have hcz206_3 : wc.cell? ⟨gb281, 3, none⟩ = some (.int .u64 t279) := (blk_cell BK281.out 3).trans rfl
                have hfz206_0 := blk_frozen BK281.out 0
                have hfz206_1 := blk_frozen BK281.out 1
                have hfz206_2 := blk_frozen BK281.out 2
                have hfz206_3 := blk_frozen BK281.out 3
                have hnb207 := NB287_253.out
                have hnc207 := NB253_287.out
                have hnb208 := NB287_254.out
                have hnc208 := NB254_287.out
                have hnb209 := NB287_259.out
                have hnc209 := NB259_287.out
                have hnb210 := NB287_263.out
                have hnc210 := NB263_287.out
                have hcz211_0 : wc.cell? ⟨gb287, 0, none⟩ = some (.int .u64 t282) := (blk_cell BK287.out 0).trans rfl
                have hcz211_1 : wc.cell? ⟨gb287, 1, none⟩ = some (.int .u64 t283) := (blk_cell BK287.out 1).trans rfl
                have hcz211_2 : wc.cell? ⟨gb287, 2, none⟩ = some (.int .u64 t284) := (blk_cell BK287.out 2).trans rfl
                have hcz211_3 : wc.cell? ⟨gb287, 3, none⟩ = some (.int .u64 t285) := (blk_cell BK287.out 3).trans rfl
                have hfz211_0 := blk_frozen BK287.out 0
                have hfz211_1 := blk_frozen BK287.out 1
                have hfz211_2 := blk_frozen BK287.out 2
                have hfz211_3 := blk_frozen BK287.out 3
                go_wp2
                go_ret
                exact ⟨by first | rfl | (simp [errW_none, errW_some] <;> rfl) | (simp [*, errW_none, errW_some] <;> rfl), by repeat (first | (with_reducible first | exact HB.out | apply below_alloc | apply pw_below_drewN | apply below_drew1 | refine below_set ?_ GE253.out | refine below_set ?_ GE254.out | refine below_set ?_ GE259.out | refine below_set ?_ GE263.out | refine below_set ?_ GE269.out | refine below_set ?_ GE275.out | refine below_set ?_ GE281.out | refine below_set ?_ GE287.out) | exact HB.out)⟩
            · rw [if_neg c96] at H
              have c96b0 : (t268 == t274) = false := beq_eq_false_iff_ne.mpr c96
              have c96b1 : (t268 != t274) = true := bne_iff_ne.mpr c96
              obtain rfl := Option.some.inj H
              have hnb212 := NB269_253.out
              have hnc212 := NB253_269.out
              have hnb213 := NB269_254.out
              have hnc213 := NB254_269.out
              have hnb214 := NB269_259.out
              have hnc214 := NB259_269.out
              have hnb215 := NB269_263.out
              have hnc215 := NB263_269.out
              have hnb216 := NB269_275.out
              have hnc216 := NB275_269.out
              have hnb217 := NB269_281.out
              have hnc217 := NB281_269.out
              have hnb218 := NB269_287.out
              have hnc218 := NB287_269.out
              have hcz219_0 : wc.cell? ⟨gb269, 0, none⟩ = some (.int .u64 t264) := (blk_cell BK269.out 0).trans rfl
              have hcz219_1 : wc.cell? ⟨gb269, 1, none⟩ = some (.int .u64 t265) := (blk_cell BK269.out 1).trans rfl
              have hcz219_2 : wc.cell? ⟨gb269, 2, none⟩ = some (.int .u64 t266) := (blk_cell BK269.out 2).trans rfl
              have hcz219_3 : wc.cell? ⟨gb269, 3, none⟩ = some (.int .u64 t267) := (blk_cell BK269.out 3).trans rfl
              have hfz219_0 := blk_frozen BK269.out 0
              have hfz219_1 := blk_frozen BK269.out 1
              have hfz219_2 := blk_frozen BK269.out 2
              have hfz219_3 := blk_frozen BK269.out 3
              have hnb220 := NB275_253.out
              have hnc220 := NB253_275.out
              have hnb221 := NB275_254.out
              have hnc221 := NB254_275.out
              have hnb222 := NB275_259.out
              have hnc222 := NB259_275.out
              have hnb223 := NB275_263.out
              have hnc223 := NB263_275.out
              have hnb224 := NB275_281.out
              have hnc224 := NB281_275.out
              have hnb225 := NB275_287.out
              have hnc225 := NB287_275.out
              have hcz226_0 : wc.cell? ⟨gb275, 0, none⟩ = some (.int .u64 t270) := (blk_cell BK275.out 0).trans rfl
              have hcz226_1 : wc.cell? ⟨gb275, 1, none⟩ = some (.int .u64 t271) := (blk_cell BK275.out 1).trans rfl
              have hcz226_2 : wc.cell? ⟨gb275, 2, none⟩ = some (.int .u64 t272) := (blk_cell BK275.out 2).trans rfl
              have hcz226_3 : wc.cell? ⟨gb275, 3, none⟩ = some (.int .u64 t273) := (blk_cell BK275.out 3).trans rfl
              have hfz226_0 := blk_frozen BK275.out 0
              have hfz226_1 := blk_frozen BK275.out 1
              have hfz226_2 := blk_frozen BK275.out 2
              have hfz226_3 := blk_frozen BK275.out 3
              go_wp2
              go_ret
              exact ⟨by first | rfl | (simp [errW_none, errW_some] <;> rfl) | (simp [*, errW_none, errW_some] <;> rfl), by repeat (first | (with_reducible first | exact HB.out | apply below_alloc | apply pw_below_drewN | apply below_drew1 | refine below_set ?_ GE253.out | refine below_set ?_ GE254.out | refine below_set ?_ GE259.out | refine below_set ?_ GE263.out | refine below_set ?_ GE269.out | refine below_set ?_ GE275.out | refine below_set ?_ GE281.out | refine below_set ?_ GE287.out) | exact HB.out)⟩
          · rw [if_neg c95] at H
            have c95b0 : (t264 == t270 && (t265 == t271 && (t266 == t272 && (t267 == t273)))) = false := by simpa using c95
            (try (have c95b1 : decide (t264 = t270 && (t265 == t271 && (t266 == t272 && (t267 == t273)))) = false := by simpa using c95))
            (try (have c95b2 : (t264 == t270 && (t265 == t271 && (t266 == t272 && (t267 == t273)))) = false := by simpa using c95))
            (try (have c95b3 : ¬ (t264 = t270 && (t265 == t271 && (t266 == t272 && (t267 == t273)))) := by simpa using c95))
            clear c95
            obtain rfl := Option.some.inj H
            have hnb227 := NB269_253.out
            have hnc227 := NB253_269.out
            have hnb228 := NB269_254.out
            have hnc228 := NB254_269.out
            have hnb229 := NB269_259.out
            have hnc229 := NB259_269.out
            have hnb230 := NB269_263.out
            have hnc230 := NB263_269.out
            have hnb231 := NB269_275.out
            have hnc231 := NB275_269.out
            have hnb232 := NB269_281.out
            have hnc232 := NB281_269.out
            have hnb233 := NB269_287.out
            have hnc233 := NB287_269.out
            have hcz234_0 : wc.cell? ⟨gb269, 0, none⟩ = some (.int .u64 t264) := (blk_cell BK269.out 0).trans rfl
            have hcz234_1 : wc.cell? ⟨gb269, 1, none⟩ = some (.int .u64 t265) := (blk_cell BK269.out 1).trans rfl
            have hcz234_2 : wc.cell? ⟨gb269, 2, none⟩ = some (.int .u64 t266) := (blk_cell BK269.out 2).trans rfl
            have hcz234_3 : wc.cell? ⟨gb269, 3, none⟩ = some (.int .u64 t267) := (blk_cell BK269.out 3).trans rfl
            have hfz234_0 := blk_frozen BK269.out 0
            have hfz234_1 := blk_frozen BK269.out 1
            have hfz234_2 := blk_frozen BK269.out 2
            have hfz234_3 := blk_frozen BK269.out 3
            have hnb235 := NB275_253.out
            have hnc235 := NB253_275.out
            have hnb236 := NB275_254.out
            have hnc236 := NB254_275.out
            have hnb237 := NB275_259.out
            have hnc237 := NB259_275.out
            have hnb238 := NB275_263.out
            have hnc238 := NB263_275.out
            have hnb239 := NB275_281.out
            have hnc239 := NB281_275.out
            have hnb240 := NB275_287.out
            have hnc240 := NB287_275.out
            have hcz241_0 : wc.cell? ⟨gb275, 0, none⟩ = some (.int .u64 t270) := (blk_cell BK275.out 0).trans rfl
            have hcz241_1 : wc.cell? ⟨gb275, 1, none⟩ = some (.int .u64 t271) := (blk_cell BK275.out 1).trans rfl
            have hcz241_2 : wc.cell? ⟨gb275, 2, none⟩ = some (.int .u64 t272) := (blk_cell BK275.out 2).trans rfl
            have hcz241_3 : wc.cell? ⟨gb275, 3, none⟩ = some (.int .u64 t273) := (blk_cell BK275.out 3).trans rfl
            have hfz241_0 := blk_frozen BK275.out 0
            have hfz241_1 := blk_frozen BK275.out 1
            have hfz241_2 := blk_frozen BK275.out 2
            have hfz241_3 := blk_frozen BK275.out 3
            go_wp2
            go_ret
            exact ⟨by first | rfl | (simp [errW_none, errW_some] <;> rfl) | (simp [*, errW_none, errW_some] <;> rfl), by repeat (first | (with_reducible first | exact HB.out | apply below_alloc | apply pw_below_drewN | apply below_drew1 | refine below_set ?_ GE253.out | refine below_set ?_ GE254.out | refine below_set ?_ GE259.out | refine below_set ?_ GE263.out | refine below_set ?_ GE269.out | refine below_set ?_ GE275.out | refine below_set ?_ GE281.out | refine below_set ?_ GE287.out) | exact HB.out)⟩
        · replace c94 := Bool.eq_false_iff.mpr c94
          subst c94
          have H1 : (some false) = some r := by rw [if_neg (show ¬ (false = true) by decide)] at H; exact H
          clear H
          have H := H1
          clear H1
          obtain rfl := Option.some.inj H
          go_wp2
          go_ret
          exact ⟨by first | rfl | (simp [errW_none, errW_some] <;> rfl) | (simp [*, errW_none, errW_some] <;> rfl), by repeat (first | (with_reducible first | exact HB.out | apply below_alloc | apply pw_below_drewN | apply below_drew1 | refine below_set ?_ GE253.out | refine below_set ?_ GE254.out | refine below_set ?_ GE259.out | refine below_set ?_ GE263.out | refine below_set ?_ GE269.out | refine below_set ?_ GE275.out | refine below_set ?_ GE281.out | refine below_set ?_ GE287.out) | exact HB.out)⟩
      · replace c93 := Bool.eq_false_iff.mpr c93
        subst c93
        have H1 : (some false) = some r := by rw [if_neg (show ¬ (false = true) by decide)] at H; exact H
        clear H
        have H := H1
        clear H1
        obtain rfl := Option.some.inj H
        go_wp2
        go_ret
        exact ⟨by first | rfl | (simp [errW_none, errW_some] <;> rfl) | (simp [*, errW_none, errW_some] <;> rfl), by repeat (first | (with_reducible first | exact HB.out | apply below_alloc | apply pw_below_drewN | apply below_drew1 | refine below_set ?_ GE253.out | refine below_set ?_ GE254.out | refine below_set ?_ GE259.out | refine below_set ?_ GE263.out | refine below_set ?_ GE269.out | refine below_set ?_ GE275.out | refine below_set ?_ GE281.out | refine below_set ?_ GE287.out) | exact HB.out)⟩

end Go.Proofs.Ytgfmmbgljbabbaa.P
