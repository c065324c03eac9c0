/-
  No cell of these rows narrows 'for every input' (looked for: loops, veiled, ifaces, maps, wideKeys, modest, calm, conditions, laid).
  DERIVED. THE GIVEN ROWS OF THIS SEAT. 8 by the template 'for every input the law returns true; each argument reads behind the call as it read before'; 0 by the template 'total and deterministic' (their statements: YtpgbejgdmgpfjaaGreatTotals.lean).
  GIVEN WITH THE SEED: the statements are not yours to turn. If you find one false, say at which input.
  Laid BY PROGRAM, IN A SANDBOX (cutbox-rows.mjs): the forced cells as the released guide's own fill.sh prints them over the translation 9d6507ef821876ee… (all of the seat's roots in one cut). By AI agents, Wed Nov 11 2026. No macro, syntax, notation, axiom, sorry.
-/
import Derived.Test.YtpgbejgdmgpfjaaGreatChecked
import GoSem.Claim
import GoSem.ClaimJoined
import GoSem.ClaimMapViews
import Derived.JoinedTies
import Derived.KernelRfl
namespace Go.Proofs.YtpgbejgdmgpfjaaGreat
/- THE CELL 'sum', in the pinned program and in every row, IS THE sha256 OF THE DUMP (.gsa) THAT YtpgbejgdmgpfjaaGreatProg.lean LOADS. Nothing in Lean hashes anything: it is a label: what it is worth is what the hold of that sum in a sandbox is worth. -/
noncomputable def Tryz.pinned : Pinned := { name := "ytpgbejgdmgpfjaagreat", sum := "9d6507ef821876ee827fa4cccc491b7df6aea0369d76483f69f4d41a682bccb1", checked := Tryz.checked }
namespace Rows
def none {H : Type} : Left H := { results := [], args := [] }

/-- 'eliminantlaw24.IntervalMatchesReference': WHATEVER THE INPUT: true; the input reads as it did. -/
def intervalMatchesReferenceSpec : ChangeSpec := { name := "intervalMatchesReference", fn := fun _ => fun
  | [d1, d2, d3] => { results := [.lit (.bool true)], args := [d1, d2, d3] }
  | _ => none }
def intervalMatchesReferenceRow : OpenClaim := { program := "ytpgbejgdmgpfjaagreat", sum := "9d6507ef821876ee827fa4cccc491b7df6aea0369d76483f69f4d41a682bccb1", func := "eliminant/eliminantlaw24.IntervalMatchesReference", spec := "intervalMatchesReference", unfollowed := true, recurses := true, apart := false }
def IntervalMatchesReferenceSaid : Prop := intervalMatchesReferenceRow.holds Tryz.pinned (OpenSpec.ofChange intervalMatchesReferenceSpec)

/-- ITS FALSE NEIGHBOUR: 'it returns false'. Refute it at one input. -/
def intervalMatchesReferenceWrong : ChangeSpec := { name := "intervalMatchesReference", fn := fun _ => fun
  | [d1, d2, d3] => { results := [.lit (.bool false)], args := [d1, d2, d3] }
  | _ => none }
def IntervalMatchesReferenceWrongFalsely : Prop := intervalMatchesReferenceRow.holds Tryz.pinned (OpenSpec.ofChange intervalMatchesReferenceWrong)

/-- 'eliminantlaw24.IntervalValid': WHATEVER THE INPUT: true; the input reads as it did. -/
def intervalValidSpec : ChangeSpec := { name := "intervalValid", fn := fun _ => fun
  | [d] => { results := [.lit (.bool true)], args := [d] }
  | _ => none }
def intervalValidRow : OpenClaim := { program := "ytpgbejgdmgpfjaagreat", sum := "9d6507ef821876ee827fa4cccc491b7df6aea0369d76483f69f4d41a682bccb1", func := "eliminant/eliminantlaw24.IntervalValid", spec := "intervalValid", unfollowed := true, recurses := true, apart := false }
def IntervalValidSaid : Prop := intervalValidRow.holds Tryz.pinned (OpenSpec.ofChange intervalValidSpec)

/-- ITS FALSE NEIGHBOUR: 'it returns false'. Refute it at one input. -/
def intervalValidWrong : ChangeSpec := { name := "intervalValid", fn := fun _ => fun
  | [d] => { results := [.lit (.bool false)], args := [d] }
  | _ => none }
def IntervalValidWrongFalsely : Prop := intervalValidRow.holds Tryz.pinned (OpenSpec.ofChange intervalValidWrong)

/-- 'eliminantlaw24.IntervalContains': WHATEVER THE INPUT: true; the input reads as it did. -/
def intervalContainsSpec : ChangeSpec := { name := "intervalContains", fn := fun _ => fun
  | [d1, d2, d3] => { results := [.lit (.bool true)], args := [d1, d2, d3] }
  | _ => none }
def intervalContainsRow : OpenClaim := { program := "ytpgbejgdmgpfjaagreat", sum := "9d6507ef821876ee827fa4cccc491b7df6aea0369d76483f69f4d41a682bccb1", func := "eliminant/eliminantlaw24.IntervalContains", spec := "intervalContains", unfollowed := true, recurses := true, apart := false }
def IntervalContainsSaid : Prop := intervalContainsRow.holds Tryz.pinned (OpenSpec.ofChange intervalContainsSpec)

/-- ITS FALSE NEIGHBOUR: 'it returns false'. Refute it at one input. -/
def intervalContainsWrong : ChangeSpec := { name := "intervalContains", fn := fun _ => fun
  | [d1, d2, d3] => { results := [.lit (.bool false)], args := [d1, d2, d3] }
  | _ => none }
def IntervalContainsWrongFalsely : Prop := intervalContainsRow.holds Tryz.pinned (OpenSpec.ofChange intervalContainsWrong)

/-- 'eliminantlaw24.IntervalNarrows': WHATEVER THE INPUT: true; the input reads as it did. -/
def intervalNarrowsSpec : ChangeSpec := { name := "intervalNarrows", fn := fun _ => fun
  | [d1, d2, d3] => { results := [.lit (.bool true)], args := [d1, d2, d3] }
  | _ => none }
def intervalNarrowsRow : OpenClaim := { program := "ytpgbejgdmgpfjaagreat", sum := "9d6507ef821876ee827fa4cccc491b7df6aea0369d76483f69f4d41a682bccb1", func := "eliminant/eliminantlaw24.IntervalNarrows", spec := "intervalNarrows", unfollowed := true, recurses := true, apart := false }
def IntervalNarrowsSaid : Prop := intervalNarrowsRow.holds Tryz.pinned (OpenSpec.ofChange intervalNarrowsSpec)

/-- ITS FALSE NEIGHBOUR: 'it returns false'. Refute it at one input. -/
def intervalNarrowsWrong : ChangeSpec := { name := "intervalNarrows", fn := fun _ => fun
  | [d1, d2, d3] => { results := [.lit (.bool false)], args := [d1, d2, d3] }
  | _ => none }
def IntervalNarrowsWrongFalsely : Prop := intervalNarrowsRow.holds Tryz.pinned (OpenSpec.ofChange intervalNarrowsWrong)

/-- 'eliminantlaw24.IntervalMeets': WHATEVER THE INPUT: true; the input reads as it did. -/
def intervalMeetsSpec : ChangeSpec := { name := "intervalMeets", fn := fun _ => fun
  | [d1, d2, d3] => { results := [.lit (.bool true)], args := [d1, d2, d3] }
  | _ => none }
def intervalMeetsRow : OpenClaim := { program := "ytpgbejgdmgpfjaagreat", sum := "9d6507ef821876ee827fa4cccc491b7df6aea0369d76483f69f4d41a682bccb1", func := "eliminant/eliminantlaw24.IntervalMeets", spec := "intervalMeets", unfollowed := true, recurses := true, apart := false }
def IntervalMeetsSaid : Prop := intervalMeetsRow.holds Tryz.pinned (OpenSpec.ofChange intervalMeetsSpec)

/-- ITS FALSE NEIGHBOUR: 'it returns false'. Refute it at one input. -/
def intervalMeetsWrong : ChangeSpec := { name := "intervalMeets", fn := fun _ => fun
  | [d1, d2, d3] => { results := [.lit (.bool false)], args := [d1, d2, d3] }
  | _ => none }
def IntervalMeetsWrongFalsely : Prop := intervalMeetsRow.holds Tryz.pinned (OpenSpec.ofChange intervalMeetsWrong)

/-- 'eliminantlaw24.IntervalKeepsZeros': WHATEVER THE INPUT: true; the input reads as it did. -/
def intervalKeepsZerosSpec : ChangeSpec := { name := "intervalKeepsZeros", fn := fun _ => fun
  | [d1, d2, d3] => { results := [.lit (.bool true)], args := [d1, d2, d3] }
  | _ => none }
def intervalKeepsZerosRow : OpenClaim := { program := "ytpgbejgdmgpfjaagreat", sum := "9d6507ef821876ee827fa4cccc491b7df6aea0369d76483f69f4d41a682bccb1", func := "eliminant/eliminantlaw24.IntervalKeepsZeros", spec := "intervalKeepsZeros", unfollowed := true, recurses := true, apart := false }
def IntervalKeepsZerosSaid : Prop := intervalKeepsZerosRow.holds Tryz.pinned (OpenSpec.ofChange intervalKeepsZerosSpec)

/-- ITS FALSE NEIGHBOUR: 'it returns false'. Refute it at one input. -/
def intervalKeepsZerosWrong : ChangeSpec := { name := "intervalKeepsZeros", fn := fun _ => fun
  | [d1, d2, d3] => { results := [.lit (.bool false)], args := [d1, d2, d3] }
  | _ => none }
def IntervalKeepsZerosWrongFalsely : Prop := intervalKeepsZerosRow.holds Tryz.pinned (OpenSpec.ofChange intervalKeepsZerosWrong)

/-- 'eliminantlaw24.IntervalErrors': WHATEVER THE INPUT: true; the input reads as it did. -/
def intervalErrorsSpec : ChangeSpec := { name := "intervalErrors", fn := fun _ => fun
  | [d1, d2, d3] => { results := [.lit (.bool true)], args := [d1, d2, d3] }
  | _ => none }
def intervalErrorsRow : OpenClaim := { program := "ytpgbejgdmgpfjaagreat", sum := "9d6507ef821876ee827fa4cccc491b7df6aea0369d76483f69f4d41a682bccb1", func := "eliminant/eliminantlaw24.IntervalErrors", spec := "intervalErrors", unfollowed := true, recurses := true, apart := false }
def IntervalErrorsSaid : Prop := intervalErrorsRow.holds Tryz.pinned (OpenSpec.ofChange intervalErrorsSpec)

/-- ITS FALSE NEIGHBOUR: 'it returns false'. Refute it at one input. -/
def intervalErrorsWrong : ChangeSpec := { name := "intervalErrors", fn := fun _ => fun
  | [d1, d2, d3] => { results := [.lit (.bool false)], args := [d1, d2, d3] }
  | _ => none }
def IntervalErrorsWrongFalsely : Prop := intervalErrorsRow.holds Tryz.pinned (OpenSpec.ofChange intervalErrorsWrong)

/-- 'eliminantlaw24.IntervalEvaluates': WHATEVER THE INPUT: true; the input reads as it did. -/
def intervalEvaluatesSpec : ChangeSpec := { name := "intervalEvaluates", fn := fun _ => fun
  | [d1, d2, d3] => { results := [.lit (.bool true)], args := [d1, d2, d3] }
  | _ => none }
def intervalEvaluatesRow : OpenClaim := { program := "ytpgbejgdmgpfjaagreat", sum := "9d6507ef821876ee827fa4cccc491b7df6aea0369d76483f69f4d41a682bccb1", func := "eliminant/eliminantlaw24.IntervalEvaluates", spec := "intervalEvaluates", unfollowed := true, recurses := true, apart := false }
def IntervalEvaluatesSaid : Prop := intervalEvaluatesRow.holds Tryz.pinned (OpenSpec.ofChange intervalEvaluatesSpec)

/-- ITS FALSE NEIGHBOUR: 'it returns false'. Refute it at one input. -/
def intervalEvaluatesWrong : ChangeSpec := { name := "intervalEvaluates", fn := fun _ => fun
  | [d1, d2, d3] => { results := [.lit (.bool false)], args := [d1, d2, d3] }
  | _ => none }
def IntervalEvaluatesWrongFalsely : Prop := intervalEvaluatesRow.holds Tryz.pinned (OpenSpec.ofChange intervalEvaluatesWrong)

/- THE SECOND FORM. 'bulk': how many values and letters a reading holds, each counted each time it is reached (what is shared counts as often as it is met; a slice's spare places count too). A statement '..UptoSaid' is the law's where the arguments, and the package variables that the reading takes, are together of bulk at most 1048576: NARROWER than '..Said'. Prove '..Said' where nothing that the law and all that it calls make is longer than what came in: it says more and counts as full. Else prove '..UptoSaid'. A law counts once. -/
mutual
def uptoBulk {H : Type} : DataW H → Nat
  | .lit (.string bytes) => bytes.length + 1
  | .lit _ => 1
  | .nil => 1
  | .ptr d => uptoBulk d + 1
  | .slice elems spare => uptoBulkAll elems + uptoBulkAll spare + 1
  | .agg parts => uptoBulkAll parts + 1
  | .iface _ d => uptoBulk d + 1
  | .map entries => uptoBulkEntries entries + 1
  | .held _ => 1
def uptoBulkAll {H : Type} : List (DataW H) → Nat
  | [] => 0
  | d :: r => uptoBulk d + uptoBulkAll r
def uptoBulkEntries {H : Type} : List (Lit × DataW H) → Nat
  | [] => 0
  | x :: r => uptoBulkEntry x + uptoBulkEntries r
def uptoBulkEntry {H : Type} : Lit × DataW H → Nat
  | (.string bytes, d) => bytes.length + uptoBulk d + 1
  | (_, d) => uptoBulk d + 1
 end
def uptoSmall : (H : Type) → List (DataW H) → Bool := fun _ ds => decide (uptoBulkAll ds ≤ 1048576)
def OpenSpec.upto (s : _root_.Go.ChangeSpec) : _root_.Go.OpenSpec := { _root_.Go.OpenSpec.ofChange s with cond := some uptoSmall }

/-- 'eliminantlaw24.IntervalMatchesReference', WHERE WHAT IT READS IS OF BULK AT MOST 1048576: true; the input reads as it did. -/
def intervalMatchesReferenceUptoRow : OpenClaim := { program := "ytpgbejgdmgpfjaagreat", sum := "9d6507ef821876ee827fa4cccc491b7df6aea0369d76483f69f4d41a682bccb1", func := "eliminant/eliminantlaw24.IntervalMatchesReference", spec := "intervalMatchesReference", unfollowed := true, recurses := true, apart := false, narrowed := true }
def IntervalMatchesReferenceUptoSaid : Prop := intervalMatchesReferenceUptoRow.holds Tryz.pinned (OpenSpec.upto intervalMatchesReferenceSpec)

/-- 'eliminantlaw24.IntervalValid', WHERE WHAT IT READS IS OF BULK AT MOST 1048576: true; the input reads as it did. -/
def intervalValidUptoRow : OpenClaim := { program := "ytpgbejgdmgpfjaagreat", sum := "9d6507ef821876ee827fa4cccc491b7df6aea0369d76483f69f4d41a682bccb1", func := "eliminant/eliminantlaw24.IntervalValid", spec := "intervalValid", unfollowed := true, recurses := true, apart := false, narrowed := true }
def IntervalValidUptoSaid : Prop := intervalValidUptoRow.holds Tryz.pinned (OpenSpec.upto intervalValidSpec)

/-- 'eliminantlaw24.IntervalContains', WHERE WHAT IT READS IS OF BULK AT MOST 1048576: true; the input reads as it did. -/
def intervalContainsUptoRow : OpenClaim := { program := "ytpgbejgdmgpfjaagreat", sum := "9d6507ef821876ee827fa4cccc491b7df6aea0369d76483f69f4d41a682bccb1", func := "eliminant/eliminantlaw24.IntervalContains", spec := "intervalContains", unfollowed := true, recurses := true, apart := false, narrowed := true }
def IntervalContainsUptoSaid : Prop := intervalContainsUptoRow.holds Tryz.pinned (OpenSpec.upto intervalContainsSpec)

/-- 'eliminantlaw24.IntervalNarrows', WHERE WHAT IT READS IS OF BULK AT MOST 1048576: true; the input reads as it did. -/
def intervalNarrowsUptoRow : OpenClaim := { program := "ytpgbejgdmgpfjaagreat", sum := "9d6507ef821876ee827fa4cccc491b7df6aea0369d76483f69f4d41a682bccb1", func := "eliminant/eliminantlaw24.IntervalNarrows", spec := "intervalNarrows", unfollowed := true, recurses := true, apart := false, narrowed := true }
def IntervalNarrowsUptoSaid : Prop := intervalNarrowsUptoRow.holds Tryz.pinned (OpenSpec.upto intervalNarrowsSpec)

/-- 'eliminantlaw24.IntervalMeets', WHERE WHAT IT READS IS OF BULK AT MOST 1048576: true; the input reads as it did. -/
def intervalMeetsUptoRow : OpenClaim := { program := "ytpgbejgdmgpfjaagreat", sum := "9d6507ef821876ee827fa4cccc491b7df6aea0369d76483f69f4d41a682bccb1", func := "eliminant/eliminantlaw24.IntervalMeets", spec := "intervalMeets", unfollowed := true, recurses := true, apart := false, narrowed := true }
def IntervalMeetsUptoSaid : Prop := intervalMeetsUptoRow.holds Tryz.pinned (OpenSpec.upto intervalMeetsSpec)

/-- 'eliminantlaw24.IntervalKeepsZeros', WHERE WHAT IT READS IS OF BULK AT MOST 1048576: true; the input reads as it did. -/
def intervalKeepsZerosUptoRow : OpenClaim := { program := "ytpgbejgdmgpfjaagreat", sum := "9d6507ef821876ee827fa4cccc491b7df6aea0369d76483f69f4d41a682bccb1", func := "eliminant/eliminantlaw24.IntervalKeepsZeros", spec := "intervalKeepsZeros", unfollowed := true, recurses := true, apart := false, narrowed := true }
def IntervalKeepsZerosUptoSaid : Prop := intervalKeepsZerosUptoRow.holds Tryz.pinned (OpenSpec.upto intervalKeepsZerosSpec)

/-- 'eliminantlaw24.IntervalErrors', WHERE WHAT IT READS IS OF BULK AT MOST 1048576: true; the input reads as it did. -/
def intervalErrorsUptoRow : OpenClaim := { program := "ytpgbejgdmgpfjaagreat", sum := "9d6507ef821876ee827fa4cccc491b7df6aea0369d76483f69f4d41a682bccb1", func := "eliminant/eliminantlaw24.IntervalErrors", spec := "intervalErrors", unfollowed := true, recurses := true, apart := false, narrowed := true }
def IntervalErrorsUptoSaid : Prop := intervalErrorsUptoRow.holds Tryz.pinned (OpenSpec.upto intervalErrorsSpec)

/-- 'eliminantlaw24.IntervalEvaluates', WHERE WHAT IT READS IS OF BULK AT MOST 1048576: true; the input reads as it did. -/
def intervalEvaluatesUptoRow : OpenClaim := { program := "ytpgbejgdmgpfjaagreat", sum := "9d6507ef821876ee827fa4cccc491b7df6aea0369d76483f69f4d41a682bccb1", func := "eliminant/eliminantlaw24.IntervalEvaluates", spec := "intervalEvaluates", unfollowed := true, recurses := true, apart := false, narrowed := true }
def IntervalEvaluatesUptoSaid : Prop := intervalEvaluatesUptoRow.holds Tryz.pinned (OpenSpec.upto intervalEvaluatesSpec)

end Rows
end Go.Proofs.YtpgbejgdmgpfjaaGreat
