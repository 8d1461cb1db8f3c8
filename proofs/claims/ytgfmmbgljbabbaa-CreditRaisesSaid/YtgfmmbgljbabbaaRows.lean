/-
  No cell of these rows narrows 'for every input' (looked for: loops, veiled, ifaces, maps, wideKeys, modest, calm, conditions, laid).
  DERIVED. THE GIVEN ROWS OF THIS SEAT. 6 by the template 'for every input the law returns true; each argument reads behind the call as it read before'; 0 by the template 'total and deterministic' (their statements: YtgfmmbgljbabbaaTotals.lean).
  GIVEN WITH THE SEED: the statements are not yours to turn. If you find one false, say at which input.
  Laid BY PROGRAM, IN A SANDBOX (cutbox-rows.mjs): the forced cells as the released guide's own fill.sh prints them over the translation dda9bec051fe64ac… (all of the seat's roots in one cut). By AI agents, Wed Nov 11 2026. No macro, syntax, notation, axiom, sorry.
-/
import Derived.Test.YtgfmmbgljbabbaaChecked
import GoSem.Claim
import GoSem.ClaimJoined
import GoSem.ClaimMapViews
import Derived.JoinedTies
import Derived.KernelRfl
namespace Go.Proofs.Ytgfmmbgljbabbaa
/- THE CELL 'sum', in the pinned program and in every row, IS THE sha256 OF THE DUMP (.gsa) THAT YtgfmmbgljbabbaaProg.lean LOADS. Nothing in Lean hashes anything: it is a label: what it is worth is what the hold of that sum in a sandbox is worth. -/
noncomputable def Try.pinned : Pinned := { name := "ytgfmmbgljbabbaa", sum := "dda9bec051fe64ac70a4c41c49b898bf56f930fcf96dbf8041e507bcb6c4fe7e", checked := Try.checked }
namespace Rows
def none {H : Type} : Left H := { results := [], args := [] }

/-- 'wigwaglaw19.CreditNames': WHATEVER THE INPUT: true; the input reads as it did. -/
def creditNamesSpec : ChangeSpec := { name := "creditNames", fn := fun _ => fun
  | [] => { results := [.lit (.bool true)], args := [] }
  | _ => none }
def creditNamesRow : OpenClaim := { program := "ytgfmmbgljbabbaa", sum := "dda9bec051fe64ac70a4c41c49b898bf56f930fcf96dbf8041e507bcb6c4fe7e", func := "wigwag/wigwaglaw19.CreditNames", spec := "creditNames", inPlace := ["math/bits.Add64"], unfollowed := true, recurses := true, apart := false }
def CreditNamesSaid : Prop := creditNamesRow.holds Try.pinned (OpenSpec.ofChange creditNamesSpec)

/-- ITS FALSE NEIGHBOUR: 'it returns false'. Refute it at one input. -/
def creditNamesWrong : ChangeSpec := { name := "creditNames", fn := fun _ => fun
  | [] => { results := [.lit (.bool false)], args := [] }
  | _ => none }
def CreditNamesWrongFalsely : Prop := creditNamesRow.holds Try.pinned (OpenSpec.ofChange creditNamesWrong)

/-- 'wigwaglaw19.CreditTells': WHATEVER THE INPUT: true; the input reads as it did. -/
def creditTellsSpec : ChangeSpec := { name := "creditTells", fn := fun _ => fun
  | [d1, d2, d3, d4] => { results := [.lit (.bool true)], args := [d1, d2, d3, d4] }
  | _ => none }
def creditTellsRow : OpenClaim := { program := "ytgfmmbgljbabbaa", sum := "dda9bec051fe64ac70a4c41c49b898bf56f930fcf96dbf8041e507bcb6c4fe7e", func := "wigwag/wigwaglaw19.CreditTells", spec := "creditTells", inPlace := ["math/bits.Add64"], unfollowed := true, recurses := true, apart := false }
def CreditTellsSaid : Prop := creditTellsRow.holds Try.pinned (OpenSpec.ofChange creditTellsSpec)

/-- ITS FALSE NEIGHBOUR: 'it returns false'. Refute it at one input. -/
def creditTellsWrong : ChangeSpec := { name := "creditTells", fn := fun _ => fun
  | [d1, d2, d3, d4] => { results := [.lit (.bool false)], args := [d1, d2, d3, d4] }
  | _ => none }
def CreditTellsWrongFalsely : Prop := creditTellsRow.holds Try.pinned (OpenSpec.ofChange creditTellsWrong)

/-- 'wigwaglaw19.CreditHolds': WHATEVER THE INPUT: true; the input reads as it did. -/
def creditHoldsSpec : ChangeSpec := { name := "creditHolds", fn := fun _ => fun
  | [d1, d2] => { results := [.lit (.bool true)], args := [d1, d2] }
  | _ => none }
def creditHoldsRow : OpenClaim := { program := "ytgfmmbgljbabbaa", sum := "dda9bec051fe64ac70a4c41c49b898bf56f930fcf96dbf8041e507bcb6c4fe7e", func := "wigwag/wigwaglaw19.CreditHolds", spec := "creditHolds", inPlace := ["math/bits.Add64"], unfollowed := true, recurses := true, apart := false }
def CreditHoldsSaid : Prop := creditHoldsRow.holds Try.pinned (OpenSpec.ofChange creditHoldsSpec)

/-- ITS FALSE NEIGHBOUR: 'it returns false'. Refute it at one input. -/
def creditHoldsWrong : ChangeSpec := { name := "creditHolds", fn := fun _ => fun
  | [d1, d2] => { results := [.lit (.bool false)], args := [d1, d2] }
  | _ => none }
def CreditHoldsWrongFalsely : Prop := creditHoldsRow.holds Try.pinned (OpenSpec.ofChange creditHoldsWrong)

/-- 'wigwaglaw19.CreditMeets': WHATEVER THE INPUT: true; the input reads as it did. -/
def creditMeetsSpec : ChangeSpec := { name := "creditMeets", fn := fun _ => fun
  | [d1, d2] => { results := [.lit (.bool true)], args := [d1, d2] }
  | _ => none }
def creditMeetsRow : OpenClaim := { program := "ytgfmmbgljbabbaa", sum := "dda9bec051fe64ac70a4c41c49b898bf56f930fcf96dbf8041e507bcb6c4fe7e", func := "wigwag/wigwaglaw19.CreditMeets", spec := "creditMeets", inPlace := ["math/bits.Add64"], unfollowed := true, recurses := true, apart := false }
def CreditMeetsSaid : Prop := creditMeetsRow.holds Try.pinned (OpenSpec.ofChange creditMeetsSpec)

/-- ITS FALSE NEIGHBOUR: 'it returns false'. Refute it at one input. -/
def creditMeetsWrong : ChangeSpec := { name := "creditMeets", fn := fun _ => fun
  | [d1, d2] => { results := [.lit (.bool false)], args := [d1, d2] }
  | _ => none }
def CreditMeetsWrongFalsely : Prop := creditMeetsRow.holds Try.pinned (OpenSpec.ofChange creditMeetsWrong)

/-- 'wigwaglaw19.CreditRaises': WHATEVER THE INPUT: true; the input reads as it did. -/
def creditRaisesSpec : ChangeSpec := { name := "creditRaises", fn := fun _ => fun
  | [d1, d2, d3, d4, d5] => { results := [.lit (.bool true)], args := [d1, d2, d3, d4, d5] }
  | _ => none }
def creditRaisesRow : OpenClaim := { program := "ytgfmmbgljbabbaa", sum := "dda9bec051fe64ac70a4c41c49b898bf56f930fcf96dbf8041e507bcb6c4fe7e", func := "wigwag/wigwaglaw19.CreditRaises", spec := "creditRaises", inPlace := ["math/bits.Add64"], unfollowed := true, recurses := true, apart := false }
def CreditRaisesSaid : Prop := creditRaisesRow.holds Try.pinned (OpenSpec.ofChange creditRaisesSpec)

/-- ITS FALSE NEIGHBOUR: 'it returns false'. Refute it at one input. -/
def creditRaisesWrong : ChangeSpec := { name := "creditRaises", fn := fun _ => fun
  | [d1, d2, d3, d4, d5] => { results := [.lit (.bool false)], args := [d1, d2, d3, d4, d5] }
  | _ => none }
def CreditRaisesWrongFalsely : Prop := creditRaisesRow.holds Try.pinned (OpenSpec.ofChange creditRaisesWrong)

/-- 'wigwaglaw19.CreditStreams': WHATEVER THE INPUT: true; the input reads as it did. -/
def creditStreamsSpec : ChangeSpec := { name := "creditStreams", fn := fun _ => fun
  | [d1, d2] => { results := [.lit (.bool true)], args := [d1, d2] }
  | _ => none }
def creditStreamsRow : OpenClaim := { program := "ytgfmmbgljbabbaa", sum := "dda9bec051fe64ac70a4c41c49b898bf56f930fcf96dbf8041e507bcb6c4fe7e", func := "wigwag/wigwaglaw19.CreditStreams", spec := "creditStreams", inPlace := ["math/bits.Add64"], unfollowed := true, recurses := true, apart := false }
def CreditStreamsSaid : Prop := creditStreamsRow.holds Try.pinned (OpenSpec.ofChange creditStreamsSpec)

/-- ITS FALSE NEIGHBOUR: 'it returns false'. Refute it at one input. -/
def creditStreamsWrong : ChangeSpec := { name := "creditStreams", fn := fun _ => fun
  | [d1, d2] => { results := [.lit (.bool false)], args := [d1, d2] }
  | _ => none }
def CreditStreamsWrongFalsely : Prop := creditStreamsRow.holds Try.pinned (OpenSpec.ofChange creditStreamsWrong)

/- THE SECOND FORM. 'bulk': how many values and letters a reading holds, each counted each time it is reached (what is shared counts as often as it is met; a slice's spare places count too). A statement '..UptoSaid' is the law's where the arguments, and the package variables that the reading takes, are together of bulk at most 1048576: NARROWER than '..Said'. Prove '..Said' where nothing that the law and all that it calls make is longer than what came in: it says more and counts as full. Else prove '..UptoSaid'. A law counts once. -/
mutual
def uptoBulk {H : Type} : DataW H → Nat
  | .lit (.string bytes) => bytes.length + 1
  | .lit _ => 1
  | .nil => 1
  | .ptr d => uptoBulk d + 1
  | .slice elems spare => uptoBulkAll elems + uptoBulkAll spare + 1
  | .agg parts => uptoBulkAll parts + 1
  | .iface _ d => uptoBulk d + 1
  | .map entries => uptoBulkEntries entries + 1
  | .held _ => 1
def uptoBulkAll {H : Type} : List (DataW H) → Nat
  | [] => 0
  | d :: r => uptoBulk d + uptoBulkAll r
def uptoBulkEntries {H : Type} : List (Lit × DataW H) → Nat
  | [] => 0
  | x :: r => uptoBulkEntry x + uptoBulkEntries r
def uptoBulkEntry {H : Type} : Lit × DataW H → Nat
  | (.string bytes, d) => bytes.length + uptoBulk d + 1
  | (_, d) => uptoBulk d + 1
 end
def uptoSmall : (H : Type) → List (DataW H) → Bool := fun _ ds => decide (uptoBulkAll ds ≤ 1048576)
def OpenSpec.upto (s : _root_.Go.ChangeSpec) : _root_.Go.OpenSpec := { _root_.Go.OpenSpec.ofChange s with cond := some uptoSmall }

/-- 'wigwaglaw19.CreditNames', WHERE WHAT IT READS IS OF BULK AT MOST 1048576: true; the input reads as it did. -/
def creditNamesUptoRow : OpenClaim := { program := "ytgfmmbgljbabbaa", sum := "dda9bec051fe64ac70a4c41c49b898bf56f930fcf96dbf8041e507bcb6c4fe7e", func := "wigwag/wigwaglaw19.CreditNames", spec := "creditNames", inPlace := ["math/bits.Add64"], unfollowed := true, recurses := true, apart := false, narrowed := true }
def CreditNamesUptoSaid : Prop := creditNamesUptoRow.holds Try.pinned (OpenSpec.upto creditNamesSpec)

/-- 'wigwaglaw19.CreditTells', WHERE WHAT IT READS IS OF BULK AT MOST 1048576: true; the input reads as it did. -/
def creditTellsUptoRow : OpenClaim := { program := "ytgfmmbgljbabbaa", sum := "dda9bec051fe64ac70a4c41c49b898bf56f930fcf96dbf8041e507bcb6c4fe7e", func := "wigwag/wigwaglaw19.CreditTells", spec := "creditTells", inPlace := ["math/bits.Add64"], unfollowed := true, recurses := true, apart := false, narrowed := true }
def CreditTellsUptoSaid : Prop := creditTellsUptoRow.holds Try.pinned (OpenSpec.upto creditTellsSpec)

/-- 'wigwaglaw19.CreditHolds', WHERE WHAT IT READS IS OF BULK AT MOST 1048576: true; the input reads as it did. -/
def creditHoldsUptoRow : OpenClaim := { program := "ytgfmmbgljbabbaa", sum := "dda9bec051fe64ac70a4c41c49b898bf56f930fcf96dbf8041e507bcb6c4fe7e", func := "wigwag/wigwaglaw19.CreditHolds", spec := "creditHolds", inPlace := ["math/bits.Add64"], unfollowed := true, recurses := true, apart := false, narrowed := true }
def CreditHoldsUptoSaid : Prop := creditHoldsUptoRow.holds Try.pinned (OpenSpec.upto creditHoldsSpec)

/-- 'wigwaglaw19.CreditMeets', WHERE WHAT IT READS IS OF BULK AT MOST 1048576: true; the input reads as it did. -/
def creditMeetsUptoRow : OpenClaim := { program := "ytgfmmbgljbabbaa", sum := "dda9bec051fe64ac70a4c41c49b898bf56f930fcf96dbf8041e507bcb6c4fe7e", func := "wigwag/wigwaglaw19.CreditMeets", spec := "creditMeets", inPlace := ["math/bits.Add64"], unfollowed := true, recurses := true, apart := false, narrowed := true }
def CreditMeetsUptoSaid : Prop := creditMeetsUptoRow.holds Try.pinned (OpenSpec.upto creditMeetsSpec)

/-- 'wigwaglaw19.CreditRaises', WHERE WHAT IT READS IS OF BULK AT MOST 1048576: true; the input reads as it did. -/
def creditRaisesUptoRow : OpenClaim := { program := "ytgfmmbgljbabbaa", sum := "dda9bec051fe64ac70a4c41c49b898bf56f930fcf96dbf8041e507bcb6c4fe7e", func := "wigwag/wigwaglaw19.CreditRaises", spec := "creditRaises", inPlace := ["math/bits.Add64"], unfollowed := true, recurses := true, apart := false, narrowed := true }
def CreditRaisesUptoSaid : Prop := creditRaisesUptoRow.holds Try.pinned (OpenSpec.upto creditRaisesSpec)

/-- 'wigwaglaw19.CreditStreams', WHERE WHAT IT READS IS OF BULK AT MOST 1048576: true; the input reads as it did. -/
def creditStreamsUptoRow : OpenClaim := { program := "ytgfmmbgljbabbaa", sum := "dda9bec051fe64ac70a4c41c49b898bf56f930fcf96dbf8041e507bcb6c4fe7e", func := "wigwag/wigwaglaw19.CreditStreams", spec := "creditStreams", inPlace := ["math/bits.Add64"], unfollowed := true, recurses := true, apart := false, narrowed := true }
def CreditStreamsUptoSaid : Prop := creditStreamsUptoRow.holds Try.pinned (OpenSpec.upto creditStreamsSpec)

end Rows
end Go.Proofs.Ytgfmmbgljbabbaa
