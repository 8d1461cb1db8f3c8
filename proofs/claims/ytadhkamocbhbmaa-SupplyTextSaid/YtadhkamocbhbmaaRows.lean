/-
  No cell of these rows narrows 'for every input' (looked for: loops, veiled, ifaces, maps, wideKeys, modest, calm, conditions, laid).
  DERIVED. THE GIVEN ROWS OF THIS SEAT. 5 by the template 'for every input the law returns true; each argument reads behind the call as it read before'; 0 by the template 'total and deterministic' (their statements: YtadhkamocbhbmaaTotals.lean).
  GIVEN WITH THE SEED: the statements are not yours to turn. If you find one false, say at which input.
  Laid BY PROGRAM, IN A SANDBOX (cutbox-rows.mjs): the forced cells as the released guide's own fill.sh prints them over the translation 98e166216fa1f0db… (all of the seat's roots in one cut). By AI agents, Wed Nov 11 2026. No macro, syntax, notation, axiom, sorry.
-/
import Derived.Test.YtadhkamocbhbmaaChecked
import GoSem.Claim
import GoSem.ClaimJoined
import GoSem.ClaimMapViews
import Derived.JoinedTies
import Derived.KernelRfl
namespace Go.Proofs.Ytadhkamocbhbmaa
/- THE CELL 'sum', in the pinned program and in every row, IS THE sha256 OF THE DUMP (.gsa) THAT YtadhkamocbhbmaaProg.lean LOADS. Nothing in Lean hashes anything: it is a label: what it is worth is what the hold of that sum in a sandbox is worth. -/
noncomputable def Try.pinned : Pinned := { name := "ytadhkamocbhbmaa", sum := "98e166216fa1f0dbfda02faf86527e74ee0decc09bfb355e7e0fef993d2514e7", checked := Try.checked }
namespace Rows
def none {H : Type} : Left H := { results := [], args := [] }

/-- 'wigwaglaw18.SupplyOwn': WHATEVER THE INPUT: true; the input reads as it did. -/
def supplyOwnSpec : ChangeSpec := { name := "supplyOwn", fn := fun _ => fun
  | [d1, d2] => { results := [.lit (.bool true)], args := [d1, d2] }
  | _ => none }
def supplyOwnRow : OpenClaim := { program := "ytadhkamocbhbmaa", sum := "98e166216fa1f0dbfda02faf86527e74ee0decc09bfb355e7e0fef993d2514e7", func := "wigwag/wigwaglaw18.SupplyOwn", spec := "supplyOwn", unfollowed := true, recurses := true, apart := false }
def SupplyOwnSaid : Prop := supplyOwnRow.holds Try.pinned (OpenSpec.ofChange supplyOwnSpec)

/-- ITS FALSE NEIGHBOUR: 'it returns false'. Refute it at one input. -/
def supplyOwnWrong : ChangeSpec := { name := "supplyOwn", fn := fun _ => fun
  | [d1, d2] => { results := [.lit (.bool false)], args := [d1, d2] }
  | _ => none }
def SupplyOwnWrongFalsely : Prop := supplyOwnRow.holds Try.pinned (OpenSpec.ofChange supplyOwnWrong)

/-- 'wigwaglaw18.SupplyOnce': WHATEVER THE INPUT: true; the input reads as it did. -/
def supplyOnceSpec : ChangeSpec := { name := "supplyOnce", fn := fun _ => fun
  | [d1, d2] => { results := [.lit (.bool true)], args := [d1, d2] }
  | _ => none }
def supplyOnceRow : OpenClaim := { program := "ytadhkamocbhbmaa", sum := "98e166216fa1f0dbfda02faf86527e74ee0decc09bfb355e7e0fef993d2514e7", func := "wigwag/wigwaglaw18.SupplyOnce", spec := "supplyOnce", unfollowed := true, recurses := true, apart := false }
def SupplyOnceSaid : Prop := supplyOnceRow.holds Try.pinned (OpenSpec.ofChange supplyOnceSpec)

/-- ITS FALSE NEIGHBOUR: 'it returns false'. Refute it at one input. -/
def supplyOnceWrong : ChangeSpec := { name := "supplyOnce", fn := fun _ => fun
  | [d1, d2] => { results := [.lit (.bool false)], args := [d1, d2] }
  | _ => none }
def SupplyOnceWrongFalsely : Prop := supplyOnceRow.holds Try.pinned (OpenSpec.ofChange supplyOnceWrong)

/-- 'wigwaglaw18.SupplyNames': WHATEVER THE INPUT: true; the input reads as it did. -/
def supplyNamesSpec : ChangeSpec := { name := "supplyNames", fn := fun _ => fun
  | [] => { results := [.lit (.bool true)], args := [] }
  | _ => none }
def supplyNamesRow : OpenClaim := { program := "ytadhkamocbhbmaa", sum := "98e166216fa1f0dbfda02faf86527e74ee0decc09bfb355e7e0fef993d2514e7", func := "wigwag/wigwaglaw18.SupplyNames", spec := "supplyNames", unfollowed := true, recurses := true, apart := false }
def SupplyNamesSaid : Prop := supplyNamesRow.holds Try.pinned (OpenSpec.ofChange supplyNamesSpec)

/-- ITS FALSE NEIGHBOUR: 'it returns false'. Refute it at one input. -/
def supplyNamesWrong : ChangeSpec := { name := "supplyNames", fn := fun _ => fun
  | [] => { results := [.lit (.bool false)], args := [] }
  | _ => none }
def SupplyNamesWrongFalsely : Prop := supplyNamesRow.holds Try.pinned (OpenSpec.ofChange supplyNamesWrong)

/-- 'wigwaglaw18.SupplyText': WHATEVER THE INPUT: true; the input reads as it did. -/
def supplyTextSpec : ChangeSpec := { name := "supplyText", fn := fun _ => fun
  | [d1, d2] => { results := [.lit (.bool true)], args := [d1, d2] }
  | _ => none }
def supplyTextRow : OpenClaim := { program := "ytadhkamocbhbmaa", sum := "98e166216fa1f0dbfda02faf86527e74ee0decc09bfb355e7e0fef993d2514e7", func := "wigwag/wigwaglaw18.SupplyText", spec := "supplyText", unfollowed := true, recurses := true, apart := false }
def SupplyTextSaid : Prop := supplyTextRow.holds Try.pinned (OpenSpec.ofChange supplyTextSpec)

/-- ITS FALSE NEIGHBOUR: 'it returns false'. Refute it at one input. -/
def supplyTextWrong : ChangeSpec := { name := "supplyText", fn := fun _ => fun
  | [d1, d2] => { results := [.lit (.bool false)], args := [d1, d2] }
  | _ => none }
def SupplyTextWrongFalsely : Prop := supplyTextRow.holds Try.pinned (OpenSpec.ofChange supplyTextWrong)

/-- 'wigwaglaw18.SupplyEnds': WHATEVER THE INPUT: true; the input reads as it did. -/
def supplyEndsSpec : ChangeSpec := { name := "supplyEnds", fn := fun _ => fun
  | [d1, d2, d3] => { results := [.lit (.bool true)], args := [d1, d2, d3] }
  | _ => none }
def supplyEndsRow : OpenClaim := { program := "ytadhkamocbhbmaa", sum := "98e166216fa1f0dbfda02faf86527e74ee0decc09bfb355e7e0fef993d2514e7", func := "wigwag/wigwaglaw18.SupplyEnds", spec := "supplyEnds", unfollowed := true, recurses := true, apart := false }
def SupplyEndsSaid : Prop := supplyEndsRow.holds Try.pinned (OpenSpec.ofChange supplyEndsSpec)

/-- ITS FALSE NEIGHBOUR: 'it returns false'. Refute it at one input. -/
def supplyEndsWrong : ChangeSpec := { name := "supplyEnds", fn := fun _ => fun
  | [d1, d2, d3] => { results := [.lit (.bool false)], args := [d1, d2, d3] }
  | _ => none }
def SupplyEndsWrongFalsely : Prop := supplyEndsRow.holds Try.pinned (OpenSpec.ofChange supplyEndsWrong)

/- THE SECOND FORM. 'bulk': how many values and letters a reading holds, each counted each time it is reached (what is shared counts as often as it is met; a slice's spare places count too). A statement '..UptoSaid' is the law's where the arguments, and the package variables that the reading takes, are together of bulk at most 1048576: NARROWER than '..Said'. Prove '..Said' where nothing that the law and all that it calls make is longer than what came in: it says more and counts as full. Else prove '..UptoSaid'. A law counts once. -/
mutual
def uptoBulk {H : Type} : DataW H → Nat
  | .lit (.string bytes) => bytes.length + 1
  | .lit _ => 1
  | .nil => 1
  | .ptr d => uptoBulk d + 1
  | .slice elems spare => uptoBulkAll elems + uptoBulkAll spare + 1
  | .agg parts => uptoBulkAll parts + 1
  | .iface _ d => uptoBulk d + 1
  | .map entries => uptoBulkEntries entries + 1
  | .held _ => 1
def uptoBulkAll {H : Type} : List (DataW H) → Nat
  | [] => 0
  | d :: r => uptoBulk d + uptoBulkAll r
def uptoBulkEntries {H : Type} : List (Lit × DataW H) → Nat
  | [] => 0
  | x :: r => uptoBulkEntry x + uptoBulkEntries r
def uptoBulkEntry {H : Type} : Lit × DataW H → Nat
  | (.string bytes, d) => bytes.length + uptoBulk d + 1
  | (_, d) => uptoBulk d + 1
 end
def uptoSmall : (H : Type) → List (DataW H) → Bool := fun _ ds => decide (uptoBulkAll ds ≤ 1048576)
def OpenSpec.upto (s : _root_.Go.ChangeSpec) : _root_.Go.OpenSpec := { _root_.Go.OpenSpec.ofChange s with cond := some uptoSmall }

/-- 'wigwaglaw18.SupplyOwn', WHERE WHAT IT READS IS OF BULK AT MOST 1048576: true; the input reads as it did. -/
def supplyOwnUptoRow : OpenClaim := { program := "ytadhkamocbhbmaa", sum := "98e166216fa1f0dbfda02faf86527e74ee0decc09bfb355e7e0fef993d2514e7", func := "wigwag/wigwaglaw18.SupplyOwn", spec := "supplyOwn", unfollowed := true, recurses := true, apart := false, narrowed := true }
def SupplyOwnUptoSaid : Prop := supplyOwnUptoRow.holds Try.pinned (OpenSpec.upto supplyOwnSpec)

/-- 'wigwaglaw18.SupplyOnce', WHERE WHAT IT READS IS OF BULK AT MOST 1048576: true; the input reads as it did. -/
def supplyOnceUptoRow : OpenClaim := { program := "ytadhkamocbhbmaa", sum := "98e166216fa1f0dbfda02faf86527e74ee0decc09bfb355e7e0fef993d2514e7", func := "wigwag/wigwaglaw18.SupplyOnce", spec := "supplyOnce", unfollowed := true, recurses := true, apart := false, narrowed := true }
def SupplyOnceUptoSaid : Prop := supplyOnceUptoRow.holds Try.pinned (OpenSpec.upto supplyOnceSpec)

/-- 'wigwaglaw18.SupplyNames', WHERE WHAT IT READS IS OF BULK AT MOST 1048576: true; the input reads as it did. -/
def supplyNamesUptoRow : OpenClaim := { program := "ytadhkamocbhbmaa", sum := "98e166216fa1f0dbfda02faf86527e74ee0decc09bfb355e7e0fef993d2514e7", func := "wigwag/wigwaglaw18.SupplyNames", spec := "supplyNames", unfollowed := true, recurses := true, apart := false, narrowed := true }
def SupplyNamesUptoSaid : Prop := supplyNamesUptoRow.holds Try.pinned (OpenSpec.upto supplyNamesSpec)

/-- 'wigwaglaw18.SupplyText', WHERE WHAT IT READS IS OF BULK AT MOST 1048576: true; the input reads as it did. -/
def supplyTextUptoRow : OpenClaim := { program := "ytadhkamocbhbmaa", sum := "98e166216fa1f0dbfda02faf86527e74ee0decc09bfb355e7e0fef993d2514e7", func := "wigwag/wigwaglaw18.SupplyText", spec := "supplyText", unfollowed := true, recurses := true, apart := false, narrowed := true }
def SupplyTextUptoSaid : Prop := supplyTextUptoRow.holds Try.pinned (OpenSpec.upto supplyTextSpec)

/-- 'wigwaglaw18.SupplyEnds', WHERE WHAT IT READS IS OF BULK AT MOST 1048576: true; the input reads as it did. -/
def supplyEndsUptoRow : OpenClaim := { program := "ytadhkamocbhbmaa", sum := "98e166216fa1f0dbfda02faf86527e74ee0decc09bfb355e7e0fef993d2514e7", func := "wigwag/wigwaglaw18.SupplyEnds", spec := "supplyEnds", unfollowed := true, recurses := true, apart := false, narrowed := true }
def SupplyEndsUptoSaid : Prop := supplyEndsUptoRow.holds Try.pinned (OpenSpec.upto supplyEndsSpec)

end Rows
end Go.Proofs.Ytadhkamocbhbmaa
