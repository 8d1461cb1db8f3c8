/-
  No cell of these rows narrows 'for every input' (looked for: loops, veiled, ifaces, maps, wideKeys, modest, calm, conditions, laid).
  DERIVED. THE GIVEN ROWS OF THIS SEAT. 5 by the template 'for every input the law returns true; each argument reads behind the call as it read before'; 0 by the template 'total and deterministic' (their statements: YtiekeofcfpnlkaaTotals.lean).
  GIVEN WITH THE SEED: the statements are not yours to turn. If you find one false, say at which input.
  Laid BY PROGRAM, IN A SANDBOX (cutbox-rows.mjs): the forced cells as the released guide's own fill.sh prints them over the translation 75ddf7d0d926dcbe… (all of the seat's roots in one cut). By AI agents, Wed Nov 11 2026. No macro, syntax, notation, axiom, sorry.
-/
import Derived.Test.YtiekeofcfpnlkaaChecked
import GoSem.Claim
import GoSem.ClaimJoined
import GoSem.ClaimMapViews
import Derived.JoinedTies
import Derived.KernelRfl
namespace Go.Proofs.Ytiekeofcfpnlkaa
/- THE CELL 'sum', in the pinned program and in every row, IS THE sha256 OF THE DUMP (.gsa) THAT YtiekeofcfpnlkaaProg.lean LOADS. Nothing in Lean hashes anything: it is a label: what it is worth is what the hold of that sum in a sandbox is worth. -/
noncomputable def Try.pinned : Pinned := { name := "ytiekeofcfpnlkaa", sum := "75ddf7d0d926dcbe5095bafcbce9bff38f4ce97b7ae67669353471b4a1435d5b", checked := Try.checked }
namespace Rows
def none {H : Type} : Left H := { results := [], args := [] }

/-- 'wigwaglaw16.PacerTells': WHATEVER THE INPUT: true; the input reads as it did. -/
def pacerTellsSpec : ChangeSpec := { name := "pacerTells", fn := fun _ => fun
  | [d1, d2, d3, d4, d5] => { results := [.lit (.bool true)], args := [d1, d2, d3, d4, d5] }
  | _ => none }
def pacerTellsRow : OpenClaim := { program := "ytiekeofcfpnlkaa", sum := "75ddf7d0d926dcbe5095bafcbce9bff38f4ce97b7ae67669353471b4a1435d5b", func := "wigwag/wigwaglaw16.PacerTells", spec := "pacerTells", inPlace := ["math/bits.Add64"], unfollowed := true, recurses := true, apart := false }
def PacerTellsSaid : Prop := pacerTellsRow.holds Try.pinned (OpenSpec.ofChange pacerTellsSpec)

/-- ITS FALSE NEIGHBOUR: 'it returns false'. Refute it at one input. -/
def pacerTellsWrong : ChangeSpec := { name := "pacerTells", fn := fun _ => fun
  | [d1, d2, d3, d4, d5] => { results := [.lit (.bool false)], args := [d1, d2, d3, d4, d5] }
  | _ => none }
def PacerTellsWrongFalsely : Prop := pacerTellsRow.holds Try.pinned (OpenSpec.ofChange pacerTellsWrong)

/-- 'wigwaglaw16.PacerBounds': WHATEVER THE INPUT: true; the input reads as it did. -/
def pacerBoundsSpec : ChangeSpec := { name := "pacerBounds", fn := fun _ => fun
  | [d1, d2, d3, d4] => { results := [.lit (.bool true)], args := [d1, d2, d3, d4] }
  | _ => none }
def pacerBoundsRow : OpenClaim := { program := "ytiekeofcfpnlkaa", sum := "75ddf7d0d926dcbe5095bafcbce9bff38f4ce97b7ae67669353471b4a1435d5b", func := "wigwag/wigwaglaw16.PacerBounds", spec := "pacerBounds", inPlace := ["math/bits.Add64"], unfollowed := true, recurses := true, apart := false }
def PacerBoundsSaid : Prop := pacerBoundsRow.holds Try.pinned (OpenSpec.ofChange pacerBoundsSpec)

/-- ITS FALSE NEIGHBOUR: 'it returns false'. Refute it at one input. -/
def pacerBoundsWrong : ChangeSpec := { name := "pacerBounds", fn := fun _ => fun
  | [d1, d2, d3, d4] => { results := [.lit (.bool false)], args := [d1, d2, d3, d4] }
  | _ => none }
def PacerBoundsWrongFalsely : Prop := pacerBoundsRow.holds Try.pinned (OpenSpec.ofChange pacerBoundsWrong)

/-- 'wigwaglaw16.PacerWaits': WHATEVER THE INPUT: true; the input reads as it did. -/
def pacerWaitsSpec : ChangeSpec := { name := "pacerWaits", fn := fun _ => fun
  | [d1, d2, d3, d4, d5, d6] => { results := [.lit (.bool true)], args := [d1, d2, d3, d4, d5, d6] }
  | _ => none }
def pacerWaitsRow : OpenClaim := { program := "ytiekeofcfpnlkaa", sum := "75ddf7d0d926dcbe5095bafcbce9bff38f4ce97b7ae67669353471b4a1435d5b", func := "wigwag/wigwaglaw16.PacerWaits", spec := "pacerWaits", inPlace := ["math/bits.Add64"], unfollowed := true, recurses := true, apart := false }
def PacerWaitsSaid : Prop := pacerWaitsRow.holds Try.pinned (OpenSpec.ofChange pacerWaitsSpec)

/-- ITS FALSE NEIGHBOUR: 'it returns false'. Refute it at one input. -/
def pacerWaitsWrong : ChangeSpec := { name := "pacerWaits", fn := fun _ => fun
  | [d1, d2, d3, d4, d5, d6] => { results := [.lit (.bool false)], args := [d1, d2, d3, d4, d5, d6] }
  | _ => none }
def PacerWaitsWrongFalsely : Prop := pacerWaitsRow.holds Try.pinned (OpenSpec.ofChange pacerWaitsWrong)

/-- 'wigwaglaw16.PacerParts': WHATEVER THE INPUT: true; the input reads as it did. -/
def pacerPartsSpec : ChangeSpec := { name := "pacerParts", fn := fun _ => fun
  | [d1, d2] => { results := [.lit (.bool true)], args := [d1, d2] }
  | _ => none }
def pacerPartsRow : OpenClaim := { program := "ytiekeofcfpnlkaa", sum := "75ddf7d0d926dcbe5095bafcbce9bff38f4ce97b7ae67669353471b4a1435d5b", func := "wigwag/wigwaglaw16.PacerParts", spec := "pacerParts", inPlace := ["math/bits.Add64"], unfollowed := true, recurses := true, apart := false }
def PacerPartsSaid : Prop := pacerPartsRow.holds Try.pinned (OpenSpec.ofChange pacerPartsSpec)

/-- ITS FALSE NEIGHBOUR: 'it returns false'. Refute it at one input. -/
def pacerPartsWrong : ChangeSpec := { name := "pacerParts", fn := fun _ => fun
  | [d1, d2] => { results := [.lit (.bool false)], args := [d1, d2] }
  | _ => none }
def PacerPartsWrongFalsely : Prop := pacerPartsRow.holds Try.pinned (OpenSpec.ofChange pacerPartsWrong)

/-- 'wigwaglaw16.PacerFull': WHATEVER THE INPUT: true; the input reads as it did. -/
def pacerFullSpec : ChangeSpec := { name := "pacerFull", fn := fun _ => fun
  | [d1, d2, d3, d4, d5] => { results := [.lit (.bool true)], args := [d1, d2, d3, d4, d5] }
  | _ => none }
def pacerFullRow : OpenClaim := { program := "ytiekeofcfpnlkaa", sum := "75ddf7d0d926dcbe5095bafcbce9bff38f4ce97b7ae67669353471b4a1435d5b", func := "wigwag/wigwaglaw16.PacerFull", spec := "pacerFull", inPlace := ["math/bits.Add64"], unfollowed := true, recurses := true, apart := false }
def PacerFullSaid : Prop := pacerFullRow.holds Try.pinned (OpenSpec.ofChange pacerFullSpec)

/-- ITS FALSE NEIGHBOUR: 'it returns false'. Refute it at one input. -/
def pacerFullWrong : ChangeSpec := { name := "pacerFull", fn := fun _ => fun
  | [d1, d2, d3, d4, d5] => { results := [.lit (.bool false)], args := [d1, d2, d3, d4, d5] }
  | _ => none }
def PacerFullWrongFalsely : Prop := pacerFullRow.holds Try.pinned (OpenSpec.ofChange pacerFullWrong)

/- THE SECOND FORM. 'bulk': how many values and letters a reading holds, each counted each time it is reached (what is shared counts as often as it is met; a slice's spare places count too). A statement '..UptoSaid' is the law's where the arguments, and the package variables that the reading takes, are together of bulk at most 1048576: NARROWER than '..Said'. Prove '..Said' where nothing that the law and all that it calls make is longer than what came in: it says more and counts as full. Else prove '..UptoSaid'. A law counts once. -/
mutual
def uptoBulk {H : Type} : DataW H → Nat
  | .lit (.string bytes) => bytes.length + 1
  | .lit _ => 1
  | .nil => 1
  | .ptr d => uptoBulk d + 1
  | .slice elems spare => uptoBulkAll elems + uptoBulkAll spare + 1
  | .agg parts => uptoBulkAll parts + 1
  | .iface _ d => uptoBulk d + 1
  | .map entries => uptoBulkEntries entries + 1
  | .held _ => 1
def uptoBulkAll {H : Type} : List (DataW H) → Nat
  | [] => 0
  | d :: r => uptoBulk d + uptoBulkAll r
def uptoBulkEntries {H : Type} : List (Lit × DataW H) → Nat
  | [] => 0
  | x :: r => uptoBulkEntry x + uptoBulkEntries r
def uptoBulkEntry {H : Type} : Lit × DataW H → Nat
  | (.string bytes, d) => bytes.length + uptoBulk d + 1
  | (_, d) => uptoBulk d + 1
 end
def uptoSmall : (H : Type) → List (DataW H) → Bool := fun _ ds => decide (uptoBulkAll ds ≤ 1048576)
def OpenSpec.upto (s : _root_.Go.ChangeSpec) : _root_.Go.OpenSpec := { _root_.Go.OpenSpec.ofChange s with cond := some uptoSmall }

/-- 'wigwaglaw16.PacerTells', WHERE WHAT IT READS IS OF BULK AT MOST 1048576: true; the input reads as it did. -/
def pacerTellsUptoRow : OpenClaim := { program := "ytiekeofcfpnlkaa", sum := "75ddf7d0d926dcbe5095bafcbce9bff38f4ce97b7ae67669353471b4a1435d5b", func := "wigwag/wigwaglaw16.PacerTells", spec := "pacerTells", inPlace := ["math/bits.Add64"], unfollowed := true, recurses := true, apart := false, narrowed := true }
def PacerTellsUptoSaid : Prop := pacerTellsUptoRow.holds Try.pinned (OpenSpec.upto pacerTellsSpec)

/-- 'wigwaglaw16.PacerBounds', WHERE WHAT IT READS IS OF BULK AT MOST 1048576: true; the input reads as it did. -/
def pacerBoundsUptoRow : OpenClaim := { program := "ytiekeofcfpnlkaa", sum := "75ddf7d0d926dcbe5095bafcbce9bff38f4ce97b7ae67669353471b4a1435d5b", func := "wigwag/wigwaglaw16.PacerBounds", spec := "pacerBounds", inPlace := ["math/bits.Add64"], unfollowed := true, recurses := true, apart := false, narrowed := true }
def PacerBoundsUptoSaid : Prop := pacerBoundsUptoRow.holds Try.pinned (OpenSpec.upto pacerBoundsSpec)

/-- 'wigwaglaw16.PacerWaits', WHERE WHAT IT READS IS OF BULK AT MOST 1048576: true; the input reads as it did. -/
def pacerWaitsUptoRow : OpenClaim := { program := "ytiekeofcfpnlkaa", sum := "75ddf7d0d926dcbe5095bafcbce9bff38f4ce97b7ae67669353471b4a1435d5b", func := "wigwag/wigwaglaw16.PacerWaits", spec := "pacerWaits", inPlace := ["math/bits.Add64"], unfollowed := true, recurses := true, apart := false, narrowed := true }
def PacerWaitsUptoSaid : Prop := pacerWaitsUptoRow.holds Try.pinned (OpenSpec.upto pacerWaitsSpec)

/-- 'wigwaglaw16.PacerParts', WHERE WHAT IT READS IS OF BULK AT MOST 1048576: true; the input reads as it did. -/
def pacerPartsUptoRow : OpenClaim := { program := "ytiekeofcfpnlkaa", sum := "75ddf7d0d926dcbe5095bafcbce9bff38f4ce97b7ae67669353471b4a1435d5b", func := "wigwag/wigwaglaw16.PacerParts", spec := "pacerParts", inPlace := ["math/bits.Add64"], unfollowed := true, recurses := true, apart := false, narrowed := true }
def PacerPartsUptoSaid : Prop := pacerPartsUptoRow.holds Try.pinned (OpenSpec.upto pacerPartsSpec)

/-- 'wigwaglaw16.PacerFull', WHERE WHAT IT READS IS OF BULK AT MOST 1048576: true; the input reads as it did. -/
def pacerFullUptoRow : OpenClaim := { program := "ytiekeofcfpnlkaa", sum := "75ddf7d0d926dcbe5095bafcbce9bff38f4ce97b7ae67669353471b4a1435d5b", func := "wigwag/wigwaglaw16.PacerFull", spec := "pacerFull", inPlace := ["math/bits.Add64"], unfollowed := true, recurses := true, apart := false, narrowed := true }
def PacerFullUptoSaid : Prop := pacerFullUptoRow.holds Try.pinned (OpenSpec.upto pacerFullSpec)

end Rows
end Go.Proofs.Ytiekeofcfpnlkaa
