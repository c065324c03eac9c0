/-
  No cell of these rows narrows 'for every input' (looked for: loops, veiled, ifaces, maps, wideKeys, modest, calm, conditions, laid).
  DERIVED. THE GIVEN ROWS OF THIS SEAT. 9 by the template 'for every input the law returns true; each argument reads behind the call as it read before'; 0 by the template 'total and deterministic' (their statements: YtdhidmcjglokcaaGreatTotals.lean).
  GIVEN WITH THE SEED: the statements are not yours to turn. If you find one false, say at which input.
  Laid BY PROGRAM, IN A SANDBOX (cutbox-rows.mjs): the forced cells as the released guide's own fill.sh prints them over the translation 92625136b6e2f76d… (all of the seat's roots in one cut). By AI agents, Wed Nov 11 2026. No macro, syntax, notation, axiom, sorry.
-/
import Derived.Test.YtdhidmcjglokcaaGreatChecked
import GoSem.Claim
import GoSem.ClaimJoined
import GoSem.ClaimMapViews
import Derived.JoinedTies
import Derived.KernelRfl
namespace Go.Proofs.YtdhidmcjglokcaaGreat
/- THE CELL 'sum', in the pinned program and in every row, IS THE sha256 OF THE DUMP (.gsa) THAT YtdhidmcjglokcaaGreatProg.lean LOADS. Nothing in Lean hashes anything: it is a label: what it is worth is what the hold of that sum in a sandbox is worth. -/
noncomputable def Tryz.pinned : Pinned := { name := "ytdhidmcjglokcaagreat", sum := "92625136b6e2f76d8aca0abf5b329f8f8d8b0c8042e81e5ef7cd3ed079225b54", checked := Tryz.checked }
namespace Rows
def none {H : Type} : Left H := { results := [], args := [] }

/-- 'eliminantlaw07.UnivariateCanonical': WHATEVER THE INPUT: true; the input reads as it did. -/
def univariateCanonicalSpec : ChangeSpec := { name := "univariateCanonical", fn := fun _ => fun
  | [d1, d2] => { results := [.lit (.bool true)], args := [d1, d2] }
  | _ => none }
def univariateCanonicalRow : OpenClaim := { program := "ytdhidmcjglokcaagreat", sum := "92625136b6e2f76d8aca0abf5b329f8f8d8b0c8042e81e5ef7cd3ed079225b54", func := "eliminant/eliminantlaw07.UnivariateCanonical", spec := "univariateCanonical", unfollowed := true, recurses := true, apart := false }
def UnivariateCanonicalSaid : Prop := univariateCanonicalRow.holds Tryz.pinned (OpenSpec.ofChange univariateCanonicalSpec)

/-- ITS FALSE NEIGHBOUR: 'it returns false'. Refute it at one input. -/
def univariateCanonicalWrong : ChangeSpec := { name := "univariateCanonical", fn := fun _ => fun
  | [d1, d2] => { results := [.lit (.bool false)], args := [d1, d2] }
  | _ => none }
def UnivariateCanonicalWrongFalsely : Prop := univariateCanonicalRow.holds Tryz.pinned (OpenSpec.ofChange univariateCanonicalWrong)

/-- 'eliminantlaw07.UnivariateRing': WHATEVER THE INPUT: true; the input reads as it did. -/
def univariateRingSpec : ChangeSpec := { name := "univariateRing", fn := fun _ => fun
  | [d1, d2, d3] => { results := [.lit (.bool true)], args := [d1, d2, d3] }
  | _ => none }
def univariateRingRow : OpenClaim := { program := "ytdhidmcjglokcaagreat", sum := "92625136b6e2f76d8aca0abf5b329f8f8d8b0c8042e81e5ef7cd3ed079225b54", func := "eliminant/eliminantlaw07.UnivariateRing", spec := "univariateRing", unfollowed := true, recurses := true, apart := false }
def UnivariateRingSaid : Prop := univariateRingRow.holds Tryz.pinned (OpenSpec.ofChange univariateRingSpec)

/-- ITS FALSE NEIGHBOUR: 'it returns false'. Refute it at one input. -/
def univariateRingWrong : ChangeSpec := { name := "univariateRing", fn := fun _ => fun
  | [d1, d2, d3] => { results := [.lit (.bool false)], args := [d1, d2, d3] }
  | _ => none }
def UnivariateRingWrongFalsely : Prop := univariateRingRow.holds Tryz.pinned (OpenSpec.ofChange univariateRingWrong)

/-- 'eliminantlaw07.UnivariateDivides': WHATEVER THE INPUT: true; the input reads as it did. -/
def univariateDividesSpec : ChangeSpec := { name := "univariateDivides", fn := fun _ => fun
  | [d1, d2, d3] => { results := [.lit (.bool true)], args := [d1, d2, d3] }
  | _ => none }
def univariateDividesRow : OpenClaim := { program := "ytdhidmcjglokcaagreat", sum := "92625136b6e2f76d8aca0abf5b329f8f8d8b0c8042e81e5ef7cd3ed079225b54", func := "eliminant/eliminantlaw07.UnivariateDivides", spec := "univariateDivides", unfollowed := true, recurses := true, apart := false }
def UnivariateDividesSaid : Prop := univariateDividesRow.holds Tryz.pinned (OpenSpec.ofChange univariateDividesSpec)

/-- ITS FALSE NEIGHBOUR: 'it returns false'. Refute it at one input. -/
def univariateDividesWrong : ChangeSpec := { name := "univariateDivides", fn := fun _ => fun
  | [d1, d2, d3] => { results := [.lit (.bool false)], args := [d1, d2, d3] }
  | _ => none }
def UnivariateDividesWrongFalsely : Prop := univariateDividesRow.holds Tryz.pinned (OpenSpec.ofChange univariateDividesWrong)

/-- 'eliminantlaw07.UnivariateDivisors': WHATEVER THE INPUT: true; the input reads as it did. -/
def univariateDivisorsSpec : ChangeSpec := { name := "univariateDivisors", fn := fun _ => fun
  | [d1, d2, d3] => { results := [.lit (.bool true)], args := [d1, d2, d3] }
  | _ => none }
def univariateDivisorsRow : OpenClaim := { program := "ytdhidmcjglokcaagreat", sum := "92625136b6e2f76d8aca0abf5b329f8f8d8b0c8042e81e5ef7cd3ed079225b54", func := "eliminant/eliminantlaw07.UnivariateDivisors", spec := "univariateDivisors", unfollowed := true, recurses := true, apart := false }
def UnivariateDivisorsSaid : Prop := univariateDivisorsRow.holds Tryz.pinned (OpenSpec.ofChange univariateDivisorsSpec)

/-- ITS FALSE NEIGHBOUR: 'it returns false'. Refute it at one input. -/
def univariateDivisorsWrong : ChangeSpec := { name := "univariateDivisors", fn := fun _ => fun
  | [d1, d2, d3] => { results := [.lit (.bool false)], args := [d1, d2, d3] }
  | _ => none }
def UnivariateDivisorsWrongFalsely : Prop := univariateDivisorsRow.holds Tryz.pinned (OpenSpec.ofChange univariateDivisorsWrong)

/-- 'eliminantlaw07.UnivariateParts': WHATEVER THE INPUT: true; the input reads as it did. -/
def univariatePartsSpec : ChangeSpec := { name := "univariateParts", fn := fun _ => fun
  | [d1, d2, d3] => { results := [.lit (.bool true)], args := [d1, d2, d3] }
  | _ => none }
def univariatePartsRow : OpenClaim := { program := "ytdhidmcjglokcaagreat", sum := "92625136b6e2f76d8aca0abf5b329f8f8d8b0c8042e81e5ef7cd3ed079225b54", func := "eliminant/eliminantlaw07.UnivariateParts", spec := "univariateParts", unfollowed := true, recurses := true, apart := false }
def UnivariatePartsSaid : Prop := univariatePartsRow.holds Tryz.pinned (OpenSpec.ofChange univariatePartsSpec)

/-- ITS FALSE NEIGHBOUR: 'it returns false'. Refute it at one input. -/
def univariatePartsWrong : ChangeSpec := { name := "univariateParts", fn := fun _ => fun
  | [d1, d2, d3] => { results := [.lit (.bool false)], args := [d1, d2, d3] }
  | _ => none }
def UnivariatePartsWrongFalsely : Prop := univariatePartsRow.holds Tryz.pinned (OpenSpec.ofChange univariatePartsWrong)

/-- 'eliminantlaw07.UnivariateMatchesReference': WHATEVER THE INPUT: true; the input reads as it did. -/
def univariateMatchesReferenceSpec : ChangeSpec := { name := "univariateMatchesReference", fn := fun _ => fun
  | [d1, d2, d3] => { results := [.lit (.bool true)], args := [d1, d2, d3] }
  | _ => none }
def univariateMatchesReferenceRow : OpenClaim := { program := "ytdhidmcjglokcaagreat", sum := "92625136b6e2f76d8aca0abf5b329f8f8d8b0c8042e81e5ef7cd3ed079225b54", func := "eliminant/eliminantlaw07.UnivariateMatchesReference", spec := "univariateMatchesReference", unfollowed := true, recurses := true, apart := false }
def UnivariateMatchesReferenceSaid : Prop := univariateMatchesReferenceRow.holds Tryz.pinned (OpenSpec.ofChange univariateMatchesReferenceSpec)

/-- ITS FALSE NEIGHBOUR: 'it returns false'. Refute it at one input. -/
def univariateMatchesReferenceWrong : ChangeSpec := { name := "univariateMatchesReference", fn := fun _ => fun
  | [d1, d2, d3] => { results := [.lit (.bool false)], args := [d1, d2, d3] }
  | _ => none }
def UnivariateMatchesReferenceWrongFalsely : Prop := univariateMatchesReferenceRow.holds Tryz.pinned (OpenSpec.ofChange univariateMatchesReferenceWrong)

/-- 'eliminantlaw07.UnivariateValues': WHATEVER THE INPUT: true; the input reads as it did. -/
def univariateValuesSpec : ChangeSpec := { name := "univariateValues", fn := fun _ => fun
  | [d1, d2, d3] => { results := [.lit (.bool true)], args := [d1, d2, d3] }
  | _ => none }
def univariateValuesRow : OpenClaim := { program := "ytdhidmcjglokcaagreat", sum := "92625136b6e2f76d8aca0abf5b329f8f8d8b0c8042e81e5ef7cd3ed079225b54", func := "eliminant/eliminantlaw07.UnivariateValues", spec := "univariateValues", unfollowed := true, recurses := true, apart := false }
def UnivariateValuesSaid : Prop := univariateValuesRow.holds Tryz.pinned (OpenSpec.ofChange univariateValuesSpec)

/-- ITS FALSE NEIGHBOUR: 'it returns false'. Refute it at one input. -/
def univariateValuesWrong : ChangeSpec := { name := "univariateValues", fn := fun _ => fun
  | [d1, d2, d3] => { results := [.lit (.bool false)], args := [d1, d2, d3] }
  | _ => none }
def UnivariateValuesWrongFalsely : Prop := univariateValuesRow.holds Tryz.pinned (OpenSpec.ofChange univariateValuesWrong)

/-- 'eliminantlaw07.UnivariateResultants': WHATEVER THE INPUT: true; the input reads as it did. -/
def univariateResultantsSpec : ChangeSpec := { name := "univariateResultants", fn := fun _ => fun
  | [d1, d2, d3] => { results := [.lit (.bool true)], args := [d1, d2, d3] }
  | _ => none }
def univariateResultantsRow : OpenClaim := { program := "ytdhidmcjglokcaagreat", sum := "92625136b6e2f76d8aca0abf5b329f8f8d8b0c8042e81e5ef7cd3ed079225b54", func := "eliminant/eliminantlaw07.UnivariateResultants", spec := "univariateResultants", unfollowed := true, recurses := true, apart := false }
def UnivariateResultantsSaid : Prop := univariateResultantsRow.holds Tryz.pinned (OpenSpec.ofChange univariateResultantsSpec)

/-- ITS FALSE NEIGHBOUR: 'it returns false'. Refute it at one input. -/
def univariateResultantsWrong : ChangeSpec := { name := "univariateResultants", fn := fun _ => fun
  | [d1, d2, d3] => { results := [.lit (.bool false)], args := [d1, d2, d3] }
  | _ => none }
def UnivariateResultantsWrongFalsely : Prop := univariateResultantsRow.holds Tryz.pinned (OpenSpec.ofChange univariateResultantsWrong)

/-- 'eliminantlaw07.UnivariateConverts': WHATEVER THE INPUT: true; the input reads as it did. -/
def univariateConvertsSpec : ChangeSpec := { name := "univariateConverts", fn := fun _ => fun
  | [d1, d2, d3] => { results := [.lit (.bool true)], args := [d1, d2, d3] }
  | _ => none }
def univariateConvertsRow : OpenClaim := { program := "ytdhidmcjglokcaagreat", sum := "92625136b6e2f76d8aca0abf5b329f8f8d8b0c8042e81e5ef7cd3ed079225b54", func := "eliminant/eliminantlaw07.UnivariateConverts", spec := "univariateConverts", unfollowed := true, recurses := true, apart := false }
def UnivariateConvertsSaid : Prop := univariateConvertsRow.holds Tryz.pinned (OpenSpec.ofChange univariateConvertsSpec)

/-- ITS FALSE NEIGHBOUR: 'it returns false'. Refute it at one input. -/
def univariateConvertsWrong : ChangeSpec := { name := "univariateConverts", fn := fun _ => fun
  | [d1, d2, d3] => { results := [.lit (.bool false)], args := [d1, d2, d3] }
  | _ => none }
def UnivariateConvertsWrongFalsely : Prop := univariateConvertsRow.holds Tryz.pinned (OpenSpec.ofChange univariateConvertsWrong)

/- THE SECOND FORM. 'bulk': how many values and letters a reading holds, each counted each time it is reached (what is shared counts as often as it is met; a slice's spare places count too). A statement '..UptoSaid' is the law's where the arguments, and the package variables that the reading takes, are together of bulk at most 1048576: NARROWER than '..Said'. Prove '..Said' where nothing that the law and all that it calls make is longer than what came in: it says more and counts as full. Else prove '..UptoSaid'. A law counts once. -/
mutual
def uptoBulk {H : Type} : DataW H → Nat
  | .lit (.string bytes) => bytes.length + 1
  | .lit _ => 1
  | .nil => 1
  | .ptr d => uptoBulk d + 1
  | .slice elems spare => uptoBulkAll elems + uptoBulkAll spare + 1
  | .agg parts => uptoBulkAll parts + 1
  | .iface _ d => uptoBulk d + 1
  | .map entries => uptoBulkEntries entries + 1
  | .held _ => 1
def uptoBulkAll {H : Type} : List (DataW H) → Nat
  | [] => 0
  | d :: r => uptoBulk d + uptoBulkAll r
def uptoBulkEntries {H : Type} : List (Lit × DataW H) → Nat
  | [] => 0
  | x :: r => uptoBulkEntry x + uptoBulkEntries r
def uptoBulkEntry {H : Type} : Lit × DataW H → Nat
  | (.string bytes, d) => bytes.length + uptoBulk d + 1
  | (_, d) => uptoBulk d + 1
 end
def uptoSmall : (H : Type) → List (DataW H) → Bool := fun _ ds => decide (uptoBulkAll ds ≤ 1048576)
def OpenSpec.upto (s : _root_.Go.ChangeSpec) : _root_.Go.OpenSpec := { _root_.Go.OpenSpec.ofChange s with cond := some uptoSmall }

/-- 'eliminantlaw07.UnivariateCanonical', WHERE WHAT IT READS IS OF BULK AT MOST 1048576: true; the input reads as it did. -/
def univariateCanonicalUptoRow : OpenClaim := { program := "ytdhidmcjglokcaagreat", sum := "92625136b6e2f76d8aca0abf5b329f8f8d8b0c8042e81e5ef7cd3ed079225b54", func := "eliminant/eliminantlaw07.UnivariateCanonical", spec := "univariateCanonical", unfollowed := true, recurses := true, apart := false, narrowed := true }
def UnivariateCanonicalUptoSaid : Prop := univariateCanonicalUptoRow.holds Tryz.pinned (OpenSpec.upto univariateCanonicalSpec)

/-- 'eliminantlaw07.UnivariateRing', WHERE WHAT IT READS IS OF BULK AT MOST 1048576: true; the input reads as it did. -/
def univariateRingUptoRow : OpenClaim := { program := "ytdhidmcjglokcaagreat", sum := "92625136b6e2f76d8aca0abf5b329f8f8d8b0c8042e81e5ef7cd3ed079225b54", func := "eliminant/eliminantlaw07.UnivariateRing", spec := "univariateRing", unfollowed := true, recurses := true, apart := false, narrowed := true }
def UnivariateRingUptoSaid : Prop := univariateRingUptoRow.holds Tryz.pinned (OpenSpec.upto univariateRingSpec)

/-- 'eliminantlaw07.UnivariateDivides', WHERE WHAT IT READS IS OF BULK AT MOST 1048576: true; the input reads as it did. -/
def univariateDividesUptoRow : OpenClaim := { program := "ytdhidmcjglokcaagreat", sum := "92625136b6e2f76d8aca0abf5b329f8f8d8b0c8042e81e5ef7cd3ed079225b54", func := "eliminant/eliminantlaw07.UnivariateDivides", spec := "univariateDivides", unfollowed := true, recurses := true, apart := false, narrowed := true }
def UnivariateDividesUptoSaid : Prop := univariateDividesUptoRow.holds Tryz.pinned (OpenSpec.upto univariateDividesSpec)

/-- 'eliminantlaw07.UnivariateDivisors', WHERE WHAT IT READS IS OF BULK AT MOST 1048576: true; the input reads as it did. -/
def univariateDivisorsUptoRow : OpenClaim := { program := "ytdhidmcjglokcaagreat", sum := "92625136b6e2f76d8aca0abf5b329f8f8d8b0c8042e81e5ef7cd3ed079225b54", func := "eliminant/eliminantlaw07.UnivariateDivisors", spec := "univariateDivisors", unfollowed := true, recurses := true, apart := false, narrowed := true }
def UnivariateDivisorsUptoSaid : Prop := univariateDivisorsUptoRow.holds Tryz.pinned (OpenSpec.upto univariateDivisorsSpec)

/-- 'eliminantlaw07.UnivariateParts', WHERE WHAT IT READS IS OF BULK AT MOST 1048576: true; the input reads as it did. -/
def univariatePartsUptoRow : OpenClaim := { program := "ytdhidmcjglokcaagreat", sum := "92625136b6e2f76d8aca0abf5b329f8f8d8b0c8042e81e5ef7cd3ed079225b54", func := "eliminant/eliminantlaw07.UnivariateParts", spec := "univariateParts", unfollowed := true, recurses := true, apart := false, narrowed := true }
def UnivariatePartsUptoSaid : Prop := univariatePartsUptoRow.holds Tryz.pinned (OpenSpec.upto univariatePartsSpec)

/-- 'eliminantlaw07.UnivariateMatchesReference', WHERE WHAT IT READS IS OF BULK AT MOST 1048576: true; the input reads as it did. -/
def univariateMatchesReferenceUptoRow : OpenClaim := { program := "ytdhidmcjglokcaagreat", sum := "92625136b6e2f76d8aca0abf5b329f8f8d8b0c8042e81e5ef7cd3ed079225b54", func := "eliminant/eliminantlaw07.UnivariateMatchesReference", spec := "univariateMatchesReference", unfollowed := true, recurses := true, apart := false, narrowed := true }
def UnivariateMatchesReferenceUptoSaid : Prop := univariateMatchesReferenceUptoRow.holds Tryz.pinned (OpenSpec.upto univariateMatchesReferenceSpec)

/-- 'eliminantlaw07.UnivariateValues', WHERE WHAT IT READS IS OF BULK AT MOST 1048576: true; the input reads as it did. -/
def univariateValuesUptoRow : OpenClaim := { program := "ytdhidmcjglokcaagreat", sum := "92625136b6e2f76d8aca0abf5b329f8f8d8b0c8042e81e5ef7cd3ed079225b54", func := "eliminant/eliminantlaw07.UnivariateValues", spec := "univariateValues", unfollowed := true, recurses := true, apart := false, narrowed := true }
def UnivariateValuesUptoSaid : Prop := univariateValuesUptoRow.holds Tryz.pinned (OpenSpec.upto univariateValuesSpec)

/-- 'eliminantlaw07.UnivariateResultants', WHERE WHAT IT READS IS OF BULK AT MOST 1048576: true; the input reads as it did. -/
def univariateResultantsUptoRow : OpenClaim := { program := "ytdhidmcjglokcaagreat", sum := "92625136b6e2f76d8aca0abf5b329f8f8d8b0c8042e81e5ef7cd3ed079225b54", func := "eliminant/eliminantlaw07.UnivariateResultants", spec := "univariateResultants", unfollowed := true, recurses := true, apart := false, narrowed := true }
def UnivariateResultantsUptoSaid : Prop := univariateResultantsUptoRow.holds Tryz.pinned (OpenSpec.upto univariateResultantsSpec)

/-- 'eliminantlaw07.UnivariateConverts', WHERE WHAT IT READS IS OF BULK AT MOST 1048576: true; the input reads as it did. -/
def univariateConvertsUptoRow : OpenClaim := { program := "ytdhidmcjglokcaagreat", sum := "92625136b6e2f76d8aca0abf5b329f8f8d8b0c8042e81e5ef7cd3ed079225b54", func := "eliminant/eliminantlaw07.UnivariateConverts", spec := "univariateConverts", unfollowed := true, recurses := true, apart := false, narrowed := true }
def UnivariateConvertsUptoSaid : Prop := univariateConvertsUptoRow.holds Tryz.pinned (OpenSpec.upto univariateConvertsSpec)

end Rows
end Go.Proofs.YtdhidmcjglokcaaGreat
