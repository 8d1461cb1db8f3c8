/-
  No cell of these rows narrows 'for every input' (looked for: loops, veiled, ifaces, maps, wideKeys, modest, calm, conditions, laid).
  DERIVED. THE GIVEN ROWS OF THIS SEAT. 5 by the template 'for every input the law returns true; each argument reads behind the call as it read before'; 0 by the template 'total and deterministic' (their statements: YtmnpgcpejfkaaaaTotals.lean).
  GIVEN WITH THE SEED: the statements are not yours to turn. If you find one false, say at which input.
  Laid BY PROGRAM, IN A SANDBOX (cutbox-rows.mjs): the forced cells as the released guide's own fill.sh prints them over the translation 6516579026756708… (all of the seat's roots in one cut). By AI agents, Wed Nov 11 2026. No macro, syntax, notation, axiom, sorry.
-/
import Derived.Test.YtmnpgcpejfkaaaaChecked
import GoSem.Claim
import GoSem.ClaimJoined
import GoSem.ClaimMapViews
import Derived.JoinedTies
import Derived.KernelRfl
namespace Go.Proofs.Ytmnpgcpejfkaaaa
/- THE CELL 'sum', in the pinned program and in every row, IS THE sha256 OF THE DUMP (.gsa) THAT YtmnpgcpejfkaaaaProg.lean LOADS. Nothing in Lean hashes anything: it is a label: what it is worth is what the hold of that sum in a sandbox is worth. -/
noncomputable def Try.pinned : Pinned := { name := "ytmnpgcpejfkaaaa", sum := "6516579026756708ac0a5b527872e6b5e782e3bed3537c302523078fc228beda", checked := Try.checked }
namespace Rows
def none {H : Type} : Left H := { results := [], args := [] }

/-- 'wigwaglaw02.FiltPushes': WHATEVER THE INPUT: true; the input reads as it did. -/
def filtPushesSpec : ChangeSpec := { name := "filtPushes", fn := fun _ => fun
  | [d1, d2, d3] => { results := [.lit (.bool true)], args := [d1, d2, d3] }
  | _ => none }
def filtPushesRow : OpenClaim := { program := "ytmnpgcpejfkaaaa", sum := "6516579026756708ac0a5b527872e6b5e782e3bed3537c302523078fc228beda", func := "wigwag/wigwaglaw02.FiltPushes", spec := "filtPushes", inPlace := ["math/bits.Add64"], unfollowed := true, recurses := true, apart := false }
def FiltPushesSaid : Prop := filtPushesRow.holds Try.pinned (OpenSpec.ofChange filtPushesSpec)

/-- ITS FALSE NEIGHBOUR: 'it returns false'. Refute it at one input. -/
def filtPushesWrong : ChangeSpec := { name := "filtPushes", fn := fun _ => fun
  | [d1, d2, d3] => { results := [.lit (.bool false)], args := [d1, d2, d3] }
  | _ => none }
def FiltPushesWrongFalsely : Prop := filtPushesRow.holds Try.pinned (OpenSpec.ofChange filtPushesWrong)

/-- 'wigwaglaw02.FiltWindows': WHATEVER THE INPUT: true; the input reads as it did. -/
def filtWindowsSpec : ChangeSpec := { name := "filtWindows", fn := fun _ => fun
  | [d1, d2, d3] => { results := [.lit (.bool true)], args := [d1, d2, d3] }
  | _ => none }
def filtWindowsRow : OpenClaim := { program := "ytmnpgcpejfkaaaa", sum := "6516579026756708ac0a5b527872e6b5e782e3bed3537c302523078fc228beda", func := "wigwag/wigwaglaw02.FiltWindows", spec := "filtWindows", inPlace := ["math/bits.Add64"], unfollowed := true, recurses := true, apart := false }
def FiltWindowsSaid : Prop := filtWindowsRow.holds Try.pinned (OpenSpec.ofChange filtWindowsSpec)

/-- ITS FALSE NEIGHBOUR: 'it returns false'. Refute it at one input. -/
def filtWindowsWrong : ChangeSpec := { name := "filtWindows", fn := fun _ => fun
  | [d1, d2, d3] => { results := [.lit (.bool false)], args := [d1, d2, d3] }
  | _ => none }
def FiltWindowsWrongFalsely : Prop := filtWindowsRow.holds Try.pinned (OpenSpec.ofChange filtWindowsWrong)

/-- 'wigwaglaw02.FiltFalls': WHATEVER THE INPUT: true; the input reads as it did. -/
def filtFallsSpec : ChangeSpec := { name := "filtFalls", fn := fun _ => fun
  | [d1, d2, d3] => { results := [.lit (.bool true)], args := [d1, d2, d3] }
  | _ => none }
def filtFallsRow : OpenClaim := { program := "ytmnpgcpejfkaaaa", sum := "6516579026756708ac0a5b527872e6b5e782e3bed3537c302523078fc228beda", func := "wigwag/wigwaglaw02.FiltFalls", spec := "filtFalls", inPlace := ["math/bits.Add64"], unfollowed := true, recurses := true, apart := false }
def FiltFallsSaid : Prop := filtFallsRow.holds Try.pinned (OpenSpec.ofChange filtFallsSpec)

/-- ITS FALSE NEIGHBOUR: 'it returns false'. Refute it at one input. -/
def filtFallsWrong : ChangeSpec := { name := "filtFalls", fn := fun _ => fun
  | [d1, d2, d3] => { results := [.lit (.bool false)], args := [d1, d2, d3] }
  | _ => none }
def FiltFallsWrongFalsely : Prop := filtFallsRow.holds Try.pinned (OpenSpec.ofChange filtFallsWrong)

/-- 'wigwaglaw02.FiltAgain': WHATEVER THE INPUT: true; the input reads as it did. -/
def filtAgainSpec : ChangeSpec := { name := "filtAgain", fn := fun _ => fun
  | [d1, d2, d3] => { results := [.lit (.bool true)], args := [d1, d2, d3] }
  | _ => none }
def filtAgainRow : OpenClaim := { program := "ytmnpgcpejfkaaaa", sum := "6516579026756708ac0a5b527872e6b5e782e3bed3537c302523078fc228beda", func := "wigwag/wigwaglaw02.FiltAgain", spec := "filtAgain", inPlace := ["math/bits.Add64"], unfollowed := true, recurses := true, apart := false }
def FiltAgainSaid : Prop := filtAgainRow.holds Try.pinned (OpenSpec.ofChange filtAgainSpec)

/-- ITS FALSE NEIGHBOUR: 'it returns false'. Refute it at one input. -/
def filtAgainWrong : ChangeSpec := { name := "filtAgain", fn := fun _ => fun
  | [d1, d2, d3] => { results := [.lit (.bool false)], args := [d1, d2, d3] }
  | _ => none }
def FiltAgainWrongFalsely : Prop := filtAgainRow.holds Try.pinned (OpenSpec.ofChange filtAgainWrong)

/-- 'wigwaglaw02.FiltMirror': WHATEVER THE INPUT: true; the input reads as it did. -/
def filtMirrorSpec : ChangeSpec := { name := "filtMirror", fn := fun _ => fun
  | [d1, d2, d3] => { results := [.lit (.bool true)], args := [d1, d2, d3] }
  | _ => none }
def filtMirrorRow : OpenClaim := { program := "ytmnpgcpejfkaaaa", sum := "6516579026756708ac0a5b527872e6b5e782e3bed3537c302523078fc228beda", func := "wigwag/wigwaglaw02.FiltMirror", spec := "filtMirror", inPlace := ["math/bits.Add64"], unfollowed := true, recurses := true, apart := false }
def FiltMirrorSaid : Prop := filtMirrorRow.holds Try.pinned (OpenSpec.ofChange filtMirrorSpec)

/-- ITS FALSE NEIGHBOUR: 'it returns false'. Refute it at one input. -/
def filtMirrorWrong : ChangeSpec := { name := "filtMirror", fn := fun _ => fun
  | [d1, d2, d3] => { results := [.lit (.bool false)], args := [d1, d2, d3] }
  | _ => none }
def FiltMirrorWrongFalsely : Prop := filtMirrorRow.holds Try.pinned (OpenSpec.ofChange filtMirrorWrong)

/- THE SECOND FORM. 'bulk': how many values and letters a reading holds, each counted each time it is reached (what is shared counts as often as it is met; a slice's spare places count too). A statement '..UptoSaid' is the law's where the arguments, and the package variables that the reading takes, are together of bulk at most 1048576: NARROWER than '..Said'. Prove '..Said' where nothing that the law and all that it calls make is longer than what came in: it says more and counts as full. Else prove '..UptoSaid'. A law counts once. -/
mutual
def uptoBulk {H : Type} : DataW H → Nat
  | .lit (.string bytes) => bytes.length + 1
  | .lit _ => 1
  | .nil => 1
  | .ptr d => uptoBulk d + 1
  | .slice elems spare => uptoBulkAll elems + uptoBulkAll spare + 1
  | .agg parts => uptoBulkAll parts + 1
  | .iface _ d => uptoBulk d + 1
  | .map entries => uptoBulkEntries entries + 1
  | .held _ => 1
def uptoBulkAll {H : Type} : List (DataW H) → Nat
  | [] => 0
  | d :: r => uptoBulk d + uptoBulkAll r
def uptoBulkEntries {H : Type} : List (Lit × DataW H) → Nat
  | [] => 0
  | x :: r => uptoBulkEntry x + uptoBulkEntries r
def uptoBulkEntry {H : Type} : Lit × DataW H → Nat
  | (.string bytes, d) => bytes.length + uptoBulk d + 1
  | (_, d) => uptoBulk d + 1
 end
def uptoSmall : (H : Type) → List (DataW H) → Bool := fun _ ds => decide (uptoBulkAll ds ≤ 1048576)
def OpenSpec.upto (s : _root_.Go.ChangeSpec) : _root_.Go.OpenSpec := { _root_.Go.OpenSpec.ofChange s with cond := some uptoSmall }

/-- 'wigwaglaw02.FiltPushes', WHERE WHAT IT READS IS OF BULK AT MOST 1048576: true; the input reads as it did. -/
def filtPushesUptoRow : OpenClaim := { program := "ytmnpgcpejfkaaaa", sum := "6516579026756708ac0a5b527872e6b5e782e3bed3537c302523078fc228beda", func := "wigwag/wigwaglaw02.FiltPushes", spec := "filtPushes", inPlace := ["math/bits.Add64"], unfollowed := true, recurses := true, apart := false, narrowed := true }
def FiltPushesUptoSaid : Prop := filtPushesUptoRow.holds Try.pinned (OpenSpec.upto filtPushesSpec)

/-- 'wigwaglaw02.FiltWindows', WHERE WHAT IT READS IS OF BULK AT MOST 1048576: true; the input reads as it did. -/
def filtWindowsUptoRow : OpenClaim := { program := "ytmnpgcpejfkaaaa", sum := "6516579026756708ac0a5b527872e6b5e782e3bed3537c302523078fc228beda", func := "wigwag/wigwaglaw02.FiltWindows", spec := "filtWindows", inPlace := ["math/bits.Add64"], unfollowed := true, recurses := true, apart := false, narrowed := true }
def FiltWindowsUptoSaid : Prop := filtWindowsUptoRow.holds Try.pinned (OpenSpec.upto filtWindowsSpec)

/-- 'wigwaglaw02.FiltFalls', WHERE WHAT IT READS IS OF BULK AT MOST 1048576: true; the input reads as it did. -/
def filtFallsUptoRow : OpenClaim := { program := "ytmnpgcpejfkaaaa", sum := "6516579026756708ac0a5b527872e6b5e782e3bed3537c302523078fc228beda", func := "wigwag/wigwaglaw02.FiltFalls", spec := "filtFalls", inPlace := ["math/bits.Add64"], unfollowed := true, recurses := true, apart := false, narrowed := true }
def FiltFallsUptoSaid : Prop := filtFallsUptoRow.holds Try.pinned (OpenSpec.upto filtFallsSpec)

/-- 'wigwaglaw02.FiltAgain', WHERE WHAT IT READS IS OF BULK AT MOST 1048576: true; the input reads as it did. -/
def filtAgainUptoRow : OpenClaim := { program := "ytmnpgcpejfkaaaa", sum := "6516579026756708ac0a5b527872e6b5e782e3bed3537c302523078fc228beda", func := "wigwag/wigwaglaw02.FiltAgain", spec := "filtAgain", inPlace := ["math/bits.Add64"], unfollowed := true, recurses := true, apart := false, narrowed := true }
def FiltAgainUptoSaid : Prop := filtAgainUptoRow.holds Try.pinned (OpenSpec.upto filtAgainSpec)

/-- 'wigwaglaw02.FiltMirror', WHERE WHAT IT READS IS OF BULK AT MOST 1048576: true; the input reads as it did. -/
def filtMirrorUptoRow : OpenClaim := { program := "ytmnpgcpejfkaaaa", sum := "6516579026756708ac0a5b527872e6b5e782e3bed3537c302523078fc228beda", func := "wigwag/wigwaglaw02.FiltMirror", spec := "filtMirror", inPlace := ["math/bits.Add64"], unfollowed := true, recurses := true, apart := false, narrowed := true }
def FiltMirrorUptoSaid : Prop := filtMirrorUptoRow.holds Try.pinned (OpenSpec.upto filtMirrorSpec)

end Rows
end Go.Proofs.Ytmnpgcpejfkaaaa
