/-
  No cell of these rows narrows 'for every input' (looked for: loops, veiled, ifaces, maps, wideKeys, modest, calm, conditions, laid).
  DERIVED. THE GIVEN ROWS OF THIS SEAT. 4 by the template 'for every input the law returns true; each argument reads behind the call as it read before'; 0 by the template 'total and deterministic' (their statements: YtekefilngojelaaGreatTotals.lean).
  GIVEN WITH THE SEED: the statements are not yours to turn. If you find one false, say at which input.
  Laid BY PROGRAM, IN A SANDBOX (cutbox-rows.mjs): the forced cells as the released guide's own fill.sh prints them over the translation ec456e4484b7b105… (all of the seat's roots in one cut). By AI agents, Wed Nov 11 2026. No macro, syntax, notation, axiom, sorry.
-/
import Derived.Test.YtekefilngojelaaGreatChecked
import GoSem.Claim
import GoSem.ClaimJoined
import GoSem.ClaimMapViews
import Derived.JoinedTies
import Derived.KernelRfl
namespace Go.Proofs.YtekefilngojelaaGreat
/- THE CELL 'sum', in the pinned program and in every row, IS THE sha256 OF THE DUMP (.gsa) THAT YtekefilngojelaaGreatProg.lean LOADS. Nothing in Lean hashes anything: it is a label: what it is worth is what the hold of that sum in a sandbox is worth. -/
noncomputable def Tryz.pinned : Pinned := { name := "ytekefilngojelaagreat", sum := "ec456e4484b7b105fe865044797dabf6e6c81d0904921bcb1e55d581b7b40320", checked := Tryz.checked }
namespace Rows
def none {H : Type} : Left H := { results := [], args := [] }

/-- 'eliminantlaw37.TouchMatchesReference': WHATEVER THE INPUT: true; the input reads as it did. -/
def touchMatchesReferenceSpec : ChangeSpec := { name := "touchMatchesReference", fn := fun _ => fun
  | [d1, d2, d3] => { results := [.lit (.bool true)], args := [d1, d2, d3] }
  | _ => none }
def touchMatchesReferenceRow : OpenClaim := { program := "ytekefilngojelaagreat", sum := "ec456e4484b7b105fe865044797dabf6e6c81d0904921bcb1e55d581b7b40320", func := "eliminant/eliminantlaw37.TouchMatchesReference", spec := "touchMatchesReference", unfollowed := true, recurses := true, apart := false }
def TouchMatchesReferenceSaid : Prop := touchMatchesReferenceRow.holds Tryz.pinned (OpenSpec.ofChange touchMatchesReferenceSpec)

/-- ITS FALSE NEIGHBOUR: 'it returns false'. Refute it at one input. -/
def touchMatchesReferenceWrong : ChangeSpec := { name := "touchMatchesReference", fn := fun _ => fun
  | [d1, d2, d3] => { results := [.lit (.bool false)], args := [d1, d2, d3] }
  | _ => none }
def TouchMatchesReferenceWrongFalsely : Prop := touchMatchesReferenceRow.holds Tryz.pinned (OpenSpec.ofChange touchMatchesReferenceWrong)

/-- 'eliminantlaw37.TouchCarries': WHATEVER THE INPUT: true; the input reads as it did. -/
def touchCarriesSpec : ChangeSpec := { name := "touchCarries", fn := fun _ => fun
  | [d1, d2, d3] => { results := [.lit (.bool true)], args := [d1, d2, d3] }
  | _ => none }
def touchCarriesRow : OpenClaim := { program := "ytekefilngojelaagreat", sum := "ec456e4484b7b105fe865044797dabf6e6c81d0904921bcb1e55d581b7b40320", func := "eliminant/eliminantlaw37.TouchCarries", spec := "touchCarries", unfollowed := true, recurses := true, apart := false }
def TouchCarriesSaid : Prop := touchCarriesRow.holds Tryz.pinned (OpenSpec.ofChange touchCarriesSpec)

/-- ITS FALSE NEIGHBOUR: 'it returns false'. Refute it at one input. -/
def touchCarriesWrong : ChangeSpec := { name := "touchCarries", fn := fun _ => fun
  | [d1, d2, d3] => { results := [.lit (.bool false)], args := [d1, d2, d3] }
  | _ => none }
def TouchCarriesWrongFalsely : Prop := touchCarriesRow.holds Tryz.pinned (OpenSpec.ofChange touchCarriesWrong)

/-- 'eliminantlaw37.TouchUnused': WHATEVER THE INPUT: true; the input reads as it did. -/
def touchUnusedSpec : ChangeSpec := { name := "touchUnused", fn := fun _ => fun
  | [d1, d2, d3] => { results := [.lit (.bool true)], args := [d1, d2, d3] }
  | _ => none }
def touchUnusedRow : OpenClaim := { program := "ytekefilngojelaagreat", sum := "ec456e4484b7b105fe865044797dabf6e6c81d0904921bcb1e55d581b7b40320", func := "eliminant/eliminantlaw37.TouchUnused", spec := "touchUnused", unfollowed := true, recurses := true, apart := false }
def TouchUnusedSaid : Prop := touchUnusedRow.holds Tryz.pinned (OpenSpec.ofChange touchUnusedSpec)

/-- ITS FALSE NEIGHBOUR: 'it returns false'. Refute it at one input. -/
def touchUnusedWrong : ChangeSpec := { name := "touchUnused", fn := fun _ => fun
  | [d1, d2, d3] => { results := [.lit (.bool false)], args := [d1, d2, d3] }
  | _ => none }
def TouchUnusedWrongFalsely : Prop := touchUnusedRow.holds Tryz.pinned (OpenSpec.ofChange touchUnusedWrong)

/-- 'eliminantlaw37.TouchReturns': WHATEVER THE INPUT: true; the input reads as it did. -/
def touchReturnsSpec : ChangeSpec := { name := "touchReturns", fn := fun _ => fun
  | [d1, d2, d3] => { results := [.lit (.bool true)], args := [d1, d2, d3] }
  | _ => none }
def touchReturnsRow : OpenClaim := { program := "ytekefilngojelaagreat", sum := "ec456e4484b7b105fe865044797dabf6e6c81d0904921bcb1e55d581b7b40320", func := "eliminant/eliminantlaw37.TouchReturns", spec := "touchReturns", unfollowed := true, recurses := true, apart := false }
def TouchReturnsSaid : Prop := touchReturnsRow.holds Tryz.pinned (OpenSpec.ofChange touchReturnsSpec)

/-- ITS FALSE NEIGHBOUR: 'it returns false'. Refute it at one input. -/
def touchReturnsWrong : ChangeSpec := { name := "touchReturns", fn := fun _ => fun
  | [d1, d2, d3] => { results := [.lit (.bool false)], args := [d1, d2, d3] }
  | _ => none }
def TouchReturnsWrongFalsely : Prop := touchReturnsRow.holds Tryz.pinned (OpenSpec.ofChange touchReturnsWrong)

/- THE SECOND FORM. 'bulk': how many values and letters a reading holds, each counted each time it is reached (what is shared counts as often as it is met; a slice's spare places count too). A statement '..UptoSaid' is the law's where the arguments, and the package variables that the reading takes, are together of bulk at most 1048576: NARROWER than '..Said'. Prove '..Said' where nothing that the law and all that it calls make is longer than what came in: it says more and counts as full. Else prove '..UptoSaid'. A law counts once. -/
mutual
def uptoBulk {H : Type} : DataW H → Nat
  | .lit (.string bytes) => bytes.length + 1
  | .lit _ => 1
  | .nil => 1
  | .ptr d => uptoBulk d + 1
  | .slice elems spare => uptoBulkAll elems + uptoBulkAll spare + 1
  | .agg parts => uptoBulkAll parts + 1
  | .iface _ d => uptoBulk d + 1
  | .map entries => uptoBulkEntries entries + 1
  | .held _ => 1
def uptoBulkAll {H : Type} : List (DataW H) → Nat
  | [] => 0
  | d :: r => uptoBulk d + uptoBulkAll r
def uptoBulkEntries {H : Type} : List (Lit × DataW H) → Nat
  | [] => 0
  | x :: r => uptoBulkEntry x + uptoBulkEntries r
def uptoBulkEntry {H : Type} : Lit × DataW H → Nat
  | (.string bytes, d) => bytes.length + uptoBulk d + 1
  | (_, d) => uptoBulk d + 1
 end
def uptoSmall : (H : Type) → List (DataW H) → Bool := fun _ ds => decide (uptoBulkAll ds ≤ 1048576)
def OpenSpec.upto (s : _root_.Go.ChangeSpec) : _root_.Go.OpenSpec := { _root_.Go.OpenSpec.ofChange s with cond := some uptoSmall }

/-- 'eliminantlaw37.TouchMatchesReference', WHERE WHAT IT READS IS OF BULK AT MOST 1048576: true; the input reads as it did. -/
def touchMatchesReferenceUptoRow : OpenClaim := { program := "ytekefilngojelaagreat", sum := "ec456e4484b7b105fe865044797dabf6e6c81d0904921bcb1e55d581b7b40320", func := "eliminant/eliminantlaw37.TouchMatchesReference", spec := "touchMatchesReference", unfollowed := true, recurses := true, apart := false, narrowed := true }
def TouchMatchesReferenceUptoSaid : Prop := touchMatchesReferenceUptoRow.holds Tryz.pinned (OpenSpec.upto touchMatchesReferenceSpec)

/-- 'eliminantlaw37.TouchCarries', WHERE WHAT IT READS IS OF BULK AT MOST 1048576: true; the input reads as it did. -/
def touchCarriesUptoRow : OpenClaim := { program := "ytekefilngojelaagreat", sum := "ec456e4484b7b105fe865044797dabf6e6c81d0904921bcb1e55d581b7b40320", func := "eliminant/eliminantlaw37.TouchCarries", spec := "touchCarries", unfollowed := true, recurses := true, apart := false, narrowed := true }
def TouchCarriesUptoSaid : Prop := touchCarriesUptoRow.holds Tryz.pinned (OpenSpec.upto touchCarriesSpec)

/-- 'eliminantlaw37.TouchUnused', WHERE WHAT IT READS IS OF BULK AT MOST 1048576: true; the input reads as it did. -/
def touchUnusedUptoRow : OpenClaim := { program := "ytekefilngojelaagreat", sum := "ec456e4484b7b105fe865044797dabf6e6c81d0904921bcb1e55d581b7b40320", func := "eliminant/eliminantlaw37.TouchUnused", spec := "touchUnused", unfollowed := true, recurses := true, apart := false, narrowed := true }
def TouchUnusedUptoSaid : Prop := touchUnusedUptoRow.holds Tryz.pinned (OpenSpec.upto touchUnusedSpec)

/-- 'eliminantlaw37.TouchReturns', WHERE WHAT IT READS IS OF BULK AT MOST 1048576: true; the input reads as it did. -/
def touchReturnsUptoRow : OpenClaim := { program := "ytekefilngojelaagreat", sum := "ec456e4484b7b105fe865044797dabf6e6c81d0904921bcb1e55d581b7b40320", func := "eliminant/eliminantlaw37.TouchReturns", spec := "touchReturns", unfollowed := true, recurses := true, apart := false, narrowed := true }
def TouchReturnsUptoSaid : Prop := touchReturnsUptoRow.holds Tryz.pinned (OpenSpec.upto touchReturnsSpec)

end Rows
end Go.Proofs.YtekefilngojelaaGreat
