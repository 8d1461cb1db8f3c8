/-
  No cell of these rows narrows 'for every input' (looked for: loops, veiled, ifaces, maps, wideKeys, modest, calm, conditions, laid).
  DERIVED. THE GIVEN ROWS OF THIS SEAT. 6 by the template 'for every input the law returns true; each argument reads behind the call as it read before'; 0 by the template 'total and deterministic' (their statements: YtndfddejdfnleaaTotals.lean).
  GIVEN WITH THE SEED: the statements are not yours to turn. If you find one false, say at which input.
  Laid BY PROGRAM, IN A SANDBOX (cutbox-rows.mjs): the forced cells as the released guide's own fill.sh prints them over the translation f43b86f4144b94d6… (all of the seat's roots in one cut). By AI agents, Wed Nov 11 2026. No macro, syntax, notation, axiom, sorry.
-/
import Derived.Test.YtndfddejdfnleaaChecked
import GoSem.Claim
import GoSem.ClaimJoined
import GoSem.ClaimMapViews
import Derived.JoinedTies
import Derived.KernelRfl
namespace Go.Proofs.Ytndfddejdfnleaa
/- THE CELL 'sum', in the pinned program and in every row, IS THE sha256 OF THE DUMP (.gsa) THAT YtndfddejdfnleaaProg.lean LOADS. Nothing in Lean hashes anything: it is a label: what it is worth is what the hold of that sum in a sandbox is worth. -/
noncomputable def Try.pinned : Pinned := { name := "ytndfddejdfnleaa", sum := "f43b86f4144b94d6e4169bc20f3d4b474f9cd791e8358e1c5f27cb3c1c33219c", checked := Try.checked }
namespace Rows
def none {H : Type} : Left H := { results := [], args := [] }

/-- 'wigwaglaw17.GatherNames': WHATEVER THE INPUT: true; the input reads as it did. -/
def gatherNamesSpec : ChangeSpec := { name := "gatherNames", fn := fun _ => fun
  | [] => { results := [.lit (.bool true)], args := [] }
  | _ => none }
def gatherNamesRow : OpenClaim := { program := "ytndfddejdfnleaa", sum := "f43b86f4144b94d6e4169bc20f3d4b474f9cd791e8358e1c5f27cb3c1c33219c", func := "wigwag/wigwaglaw17.GatherNames", spec := "gatherNames", unfollowed := true, recurses := true, apart := false }
def GatherNamesSaid : Prop := gatherNamesRow.holds Try.pinned (OpenSpec.ofChange gatherNamesSpec)

/-- ITS FALSE NEIGHBOUR: 'it returns false'. Refute it at one input. -/
def gatherNamesWrong : ChangeSpec := { name := "gatherNames", fn := fun _ => fun
  | [] => { results := [.lit (.bool false)], args := [] }
  | _ => none }
def GatherNamesWrongFalsely : Prop := gatherNamesRow.holds Try.pinned (OpenSpec.ofChange gatherNamesWrong)

/-- 'wigwaglaw17.GatherPrefix': WHATEVER THE INPUT: true; the input reads as it did. -/
def gatherPrefixSpec : ChangeSpec := { name := "gatherPrefix", fn := fun _ => fun
  | [d1, d2] => { results := [.lit (.bool true)], args := [d1, d2] }
  | _ => none }
def gatherPrefixRow : OpenClaim := { program := "ytndfddejdfnleaa", sum := "f43b86f4144b94d6e4169bc20f3d4b474f9cd791e8358e1c5f27cb3c1c33219c", func := "wigwag/wigwaglaw17.GatherPrefix", spec := "gatherPrefix", unfollowed := true, recurses := true, apart := false }
def GatherPrefixSaid : Prop := gatherPrefixRow.holds Try.pinned (OpenSpec.ofChange gatherPrefixSpec)

/-- ITS FALSE NEIGHBOUR: 'it returns false'. Refute it at one input. -/
def gatherPrefixWrong : ChangeSpec := { name := "gatherPrefix", fn := fun _ => fun
  | [d1, d2] => { results := [.lit (.bool false)], args := [d1, d2] }
  | _ => none }
def GatherPrefixWrongFalsely : Prop := gatherPrefixRow.holds Try.pinned (OpenSpec.ofChange gatherPrefixWrong)

/-- 'wigwaglaw17.GatherEnds': WHATEVER THE INPUT: true; the input reads as it did. -/
def gatherEndsSpec : ChangeSpec := { name := "gatherEnds", fn := fun _ => fun
  | [d1, d2, d3, d4] => { results := [.lit (.bool true)], args := [d1, d2, d3, d4] }
  | _ => none }
def gatherEndsRow : OpenClaim := { program := "ytndfddejdfnleaa", sum := "f43b86f4144b94d6e4169bc20f3d4b474f9cd791e8358e1c5f27cb3c1c33219c", func := "wigwag/wigwaglaw17.GatherEnds", spec := "gatherEnds", unfollowed := true, recurses := true, apart := false }
def GatherEndsSaid : Prop := gatherEndsRow.holds Try.pinned (OpenSpec.ofChange gatherEndsSpec)

/-- ITS FALSE NEIGHBOUR: 'it returns false'. Refute it at one input. -/
def gatherEndsWrong : ChangeSpec := { name := "gatherEnds", fn := fun _ => fun
  | [d1, d2, d3, d4] => { results := [.lit (.bool false)], args := [d1, d2, d3, d4] }
  | _ => none }
def GatherEndsWrongFalsely : Prop := gatherEndsRow.holds Try.pinned (OpenSpec.ofChange gatherEndsWrong)

/-- 'wigwaglaw17.GatherOwn': WHATEVER THE INPUT: true; the input reads as it did. -/
def gatherOwnSpec : ChangeSpec := { name := "gatherOwn", fn := fun _ => fun
  | [d1, d2] => { results := [.lit (.bool true)], args := [d1, d2] }
  | _ => none }
def gatherOwnRow : OpenClaim := { program := "ytndfddejdfnleaa", sum := "f43b86f4144b94d6e4169bc20f3d4b474f9cd791e8358e1c5f27cb3c1c33219c", func := "wigwag/wigwaglaw17.GatherOwn", spec := "gatherOwn", unfollowed := true, recurses := true, apart := false }
def GatherOwnSaid : Prop := gatherOwnRow.holds Try.pinned (OpenSpec.ofChange gatherOwnSpec)

/-- ITS FALSE NEIGHBOUR: 'it returns false'. Refute it at one input. -/
def gatherOwnWrong : ChangeSpec := { name := "gatherOwn", fn := fun _ => fun
  | [d1, d2] => { results := [.lit (.bool false)], args := [d1, d2] }
  | _ => none }
def GatherOwnWrongFalsely : Prop := gatherOwnRow.holds Try.pinned (OpenSpec.ofChange gatherOwnWrong)

/-- 'wigwaglaw17.GatherTwice': WHATEVER THE INPUT: true; the input reads as it did. -/
def gatherTwiceSpec : ChangeSpec := { name := "gatherTwice", fn := fun _ => fun
  | [d1, d2, d3] => { results := [.lit (.bool true)], args := [d1, d2, d3] }
  | _ => none }
def gatherTwiceRow : OpenClaim := { program := "ytndfddejdfnleaa", sum := "f43b86f4144b94d6e4169bc20f3d4b474f9cd791e8358e1c5f27cb3c1c33219c", func := "wigwag/wigwaglaw17.GatherTwice", spec := "gatherTwice", unfollowed := true, recurses := true, apart := false }
def GatherTwiceSaid : Prop := gatherTwiceRow.holds Try.pinned (OpenSpec.ofChange gatherTwiceSpec)

/-- ITS FALSE NEIGHBOUR: 'it returns false'. Refute it at one input. -/
def gatherTwiceWrong : ChangeSpec := { name := "gatherTwice", fn := fun _ => fun
  | [d1, d2, d3] => { results := [.lit (.bool false)], args := [d1, d2, d3] }
  | _ => none }
def GatherTwiceWrongFalsely : Prop := gatherTwiceRow.holds Try.pinned (OpenSpec.ofChange gatherTwiceWrong)

/-- 'wigwaglaw17.GatherFirst': WHATEVER THE INPUT: true; the input reads as it did. -/
def gatherFirstSpec : ChangeSpec := { name := "gatherFirst", fn := fun _ => fun
  | [d1, d2] => { results := [.lit (.bool true)], args := [d1, d2] }
  | _ => none }
def gatherFirstRow : OpenClaim := { program := "ytndfddejdfnleaa", sum := "f43b86f4144b94d6e4169bc20f3d4b474f9cd791e8358e1c5f27cb3c1c33219c", func := "wigwag/wigwaglaw17.GatherFirst", spec := "gatherFirst", unfollowed := true, recurses := true, apart := false }
def GatherFirstSaid : Prop := gatherFirstRow.holds Try.pinned (OpenSpec.ofChange gatherFirstSpec)

/-- ITS FALSE NEIGHBOUR: 'it returns false'. Refute it at one input. -/
def gatherFirstWrong : ChangeSpec := { name := "gatherFirst", fn := fun _ => fun
  | [d1, d2] => { results := [.lit (.bool false)], args := [d1, d2] }
  | _ => none }
def GatherFirstWrongFalsely : Prop := gatherFirstRow.holds Try.pinned (OpenSpec.ofChange gatherFirstWrong)

/- THE SECOND FORM. 'bulk': how many values and letters a reading holds, each counted each time it is reached (what is shared counts as often as it is met; a slice's spare places count too). A statement '..UptoSaid' is the law's where the arguments, and the package variables that the reading takes, are together of bulk at most 1048576: NARROWER than '..Said'. Prove '..Said' where nothing that the law and all that it calls make is longer than what came in: it says more and counts as full. Else prove '..UptoSaid'. A law counts once. -/
mutual
def uptoBulk {H : Type} : DataW H → Nat
  | .lit (.string bytes) => bytes.length + 1
  | .lit _ => 1
  | .nil => 1
  | .ptr d => uptoBulk d + 1
  | .slice elems spare => uptoBulkAll elems + uptoBulkAll spare + 1
  | .agg parts => uptoBulkAll parts + 1
  | .iface _ d => uptoBulk d + 1
  | .map entries => uptoBulkEntries entries + 1
  | .held _ => 1
def uptoBulkAll {H : Type} : List (DataW H) → Nat
  | [] => 0
  | d :: r => uptoBulk d + uptoBulkAll r
def uptoBulkEntries {H : Type} : List (Lit × DataW H) → Nat
  | [] => 0
  | x :: r => uptoBulkEntry x + uptoBulkEntries r
def uptoBulkEntry {H : Type} : Lit × DataW H → Nat
  | (.string bytes, d) => bytes.length + uptoBulk d + 1
  | (_, d) => uptoBulk d + 1
 end
def uptoSmall : (H : Type) → List (DataW H) → Bool := fun _ ds => decide (uptoBulkAll ds ≤ 1048576)
def OpenSpec.upto (s : _root_.Go.ChangeSpec) : _root_.Go.OpenSpec := { _root_.Go.OpenSpec.ofChange s with cond := some uptoSmall }

/-- 'wigwaglaw17.GatherNames', WHERE WHAT IT READS IS OF BULK AT MOST 1048576: true; the input reads as it did. -/
def gatherNamesUptoRow : OpenClaim := { program := "ytndfddejdfnleaa", sum := "f43b86f4144b94d6e4169bc20f3d4b474f9cd791e8358e1c5f27cb3c1c33219c", func := "wigwag/wigwaglaw17.GatherNames", spec := "gatherNames", unfollowed := true, recurses := true, apart := false, narrowed := true }
def GatherNamesUptoSaid : Prop := gatherNamesUptoRow.holds Try.pinned (OpenSpec.upto gatherNamesSpec)

/-- 'wigwaglaw17.GatherPrefix', WHERE WHAT IT READS IS OF BULK AT MOST 1048576: true; the input reads as it did. -/
def gatherPrefixUptoRow : OpenClaim := { program := "ytndfddejdfnleaa", sum := "f43b86f4144b94d6e4169bc20f3d4b474f9cd791e8358e1c5f27cb3c1c33219c", func := "wigwag/wigwaglaw17.GatherPrefix", spec := "gatherPrefix", unfollowed := true, recurses := true, apart := false, narrowed := true }
def GatherPrefixUptoSaid : Prop := gatherPrefixUptoRow.holds Try.pinned (OpenSpec.upto gatherPrefixSpec)

/-- 'wigwaglaw17.GatherEnds', WHERE WHAT IT READS IS OF BULK AT MOST 1048576: true; the input reads as it did. -/
def gatherEndsUptoRow : OpenClaim := { program := "ytndfddejdfnleaa", sum := "f43b86f4144b94d6e4169bc20f3d4b474f9cd791e8358e1c5f27cb3c1c33219c", func := "wigwag/wigwaglaw17.GatherEnds", spec := "gatherEnds", unfollowed := true, recurses := true, apart := false, narrowed := true }
def GatherEndsUptoSaid : Prop := gatherEndsUptoRow.holds Try.pinned (OpenSpec.upto gatherEndsSpec)

/-- 'wigwaglaw17.GatherOwn', WHERE WHAT IT READS IS OF BULK AT MOST 1048576: true; the input reads as it did. -/
def gatherOwnUptoRow : OpenClaim := { program := "ytndfddejdfnleaa", sum := "f43b86f4144b94d6e4169bc20f3d4b474f9cd791e8358e1c5f27cb3c1c33219c", func := "wigwag/wigwaglaw17.GatherOwn", spec := "gatherOwn", unfollowed := true, recurses := true, apart := false, narrowed := true }
def GatherOwnUptoSaid : Prop := gatherOwnUptoRow.holds Try.pinned (OpenSpec.upto gatherOwnSpec)

/-- 'wigwaglaw17.GatherTwice', WHERE WHAT IT READS IS OF BULK AT MOST 1048576: true; the input reads as it did. -/
def gatherTwiceUptoRow : OpenClaim := { program := "ytndfddejdfnleaa", sum := "f43b86f4144b94d6e4169bc20f3d4b474f9cd791e8358e1c5f27cb3c1c33219c", func := "wigwag/wigwaglaw17.GatherTwice", spec := "gatherTwice", unfollowed := true, recurses := true, apart := false, narrowed := true }
def GatherTwiceUptoSaid : Prop := gatherTwiceUptoRow.holds Try.pinned (OpenSpec.upto gatherTwiceSpec)

/-- 'wigwaglaw17.GatherFirst', WHERE WHAT IT READS IS OF BULK AT MOST 1048576: true; the input reads as it did. -/
def gatherFirstUptoRow : OpenClaim := { program := "ytndfddejdfnleaa", sum := "f43b86f4144b94d6e4169bc20f3d4b474f9cd791e8358e1c5f27cb3c1c33219c", func := "wigwag/wigwaglaw17.GatherFirst", spec := "gatherFirst", unfollowed := true, recurses := true, apart := false, narrowed := true }
def GatherFirstUptoSaid : Prop := gatherFirstUptoRow.holds Try.pinned (OpenSpec.upto gatherFirstSpec)

end Rows
end Go.Proofs.Ytndfddejdfnleaa
