/- What any sender may send still, what any receiver lets come, and which streams may be, is what the document says. No condition. -/
import Derived.Test.YtgfmmbgljbabbaaXa
import Derived.Test.YtgfmmbgljbabbaaStmCreditTells
namespace Go.Proofs.Ytgfmmbgljbabbaa.Pure
open Go.RowKit Go.Proofs.Ytgfmmbgljbabbaa.P Go.Proofs.YtgfmmbgljbabbaaW.PrintWords Go.Proofs.YtgfmmbgljbabbaaW.PrintLast
theorem CreditTells : wigwaglaw19_CreditTells.Pure := by
  intro a b a' b' c' d' n m ha hb ha' hb' hc' hd' hn hm
  have ha := wd_of ha; have hb := wd_of hb; have ha' := wd_of ha'; have hb' := wd_of hb'; have hc' := wd_of hc'; have hd' := wd_of hd'; have hn := wd_of hn; have hm := wd_of hm
  refine ⟨1, ?_⟩
  unfold wigwaglaw19_CreditTells.f
  rw [awake_eq, use_eq ha hb hn, ruse_eq ha hb hn, come_eq ha' hb' hn, rcome_eq ha' hb' hn, read_eq ha' hb' hc' hd' hn, rread_eq ha' hb' hc' hd' hn, left_eq ha hb, rleft_eq ha hb]
  simp only [Option.bind_some, beq_self_eq_true, if_true, Bool.and_self, raise_eq, wigwaglaw19_CreditTells.j0, begin_eq, stream_eq]
  obtain ⟨s, hs⟩ : ∃ s, credit_Stream.f n m = some s := by unfold credit_Stream.f; repeat (first | exact ⟨_, rfl⟩ | split)
  rw [hs]
  simp [credit_Raise.f, credit_Begin.f]
end Go.Proofs.Ytgfmmbgljbabbaa.Pure
