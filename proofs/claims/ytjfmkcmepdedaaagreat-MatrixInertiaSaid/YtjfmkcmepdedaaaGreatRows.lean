/-
  No cell of these rows narrows 'for every input' (looked for: loops, veiled, ifaces, maps, wideKeys, modest, calm, conditions, laid).
  DERIVED. THE GIVEN ROWS OF THIS SEAT. 8 by the template 'for every input the law returns true; each argument reads behind the call as it read before'; 0 by the template 'total and deterministic' (their statements: YtjfmkcmepdedaaaGreatTotals.lean).
  GIVEN WITH THE SEED: the statements are not yours to turn. If you find one false, say at which input.
  Laid BY PROGRAM, IN A SANDBOX (cutbox-rows.mjs): the forced cells as the released guide's own fill.sh prints them over the translation efb6a2f03ef69e3a… (all of the seat's roots in one cut). By AI agents, Wed Nov 11 2026. No macro, syntax, notation, axiom, sorry.
-/
import Derived.Test.YtjfmkcmepdedaaaGreatChecked
import GoSem.Claim
import GoSem.ClaimJoined
import GoSem.ClaimMapViews
import Derived.JoinedTies
import Derived.KernelRfl
namespace Go.Proofs.YtjfmkcmepdedaaaGreat
/- THE CELL 'sum', in the pinned program and in every row, IS THE sha256 OF THE DUMP (.gsa) THAT YtjfmkcmepdedaaaGreatProg.lean LOADS. Nothing in Lean hashes anything: it is a label: what it is worth is what the hold of that sum in a sandbox is worth. -/
noncomputable def Tryz.pinned : Pinned := { name := "ytjfmkcmepdedaaagreat", sum := "efb6a2f03ef69e3a22d67d4a65f7e29a74a5ffb2c00f20e5ea57e47f439b4039", checked := Tryz.checked }
namespace Rows
def none {H : Type} : Left H := { results := [], args := [] }

/-- 'eliminantlaw11.MatrixSquares': WHATEVER THE INPUT: true; the input reads as it did. -/
def matrixSquaresSpec : ChangeSpec := { name := "matrixSquares", fn := fun _ => fun
  | [d1, d2] => { results := [.lit (.bool true)], args := [d1, d2] }
  | _ => none }
def matrixSquaresRow : OpenClaim := { program := "ytjfmkcmepdedaaagreat", sum := "efb6a2f03ef69e3a22d67d4a65f7e29a74a5ffb2c00f20e5ea57e47f439b4039", func := "eliminant/eliminantlaw11.MatrixSquares", spec := "matrixSquares", unfollowed := true, recurses := true, apart := false }
def MatrixSquaresSaid : Prop := matrixSquaresRow.holds Tryz.pinned (OpenSpec.ofChange matrixSquaresSpec)

/-- ITS FALSE NEIGHBOUR: 'it returns false'. Refute it at one input. -/
def matrixSquaresWrong : ChangeSpec := { name := "matrixSquares", fn := fun _ => fun
  | [d1, d2] => { results := [.lit (.bool false)], args := [d1, d2] }
  | _ => none }
def MatrixSquaresWrongFalsely : Prop := matrixSquaresRow.holds Tryz.pinned (OpenSpec.ofChange matrixSquaresWrong)

/-- 'eliminantlaw11.MatrixSolves': WHATEVER THE INPUT: true; the input reads as it did. -/
def matrixSolvesSpec : ChangeSpec := { name := "matrixSolves", fn := fun _ => fun
  | [d1, d2] => { results := [.lit (.bool true)], args := [d1, d2] }
  | _ => none }
def matrixSolvesRow : OpenClaim := { program := "ytjfmkcmepdedaaagreat", sum := "efb6a2f03ef69e3a22d67d4a65f7e29a74a5ffb2c00f20e5ea57e47f439b4039", func := "eliminant/eliminantlaw11.MatrixSolves", spec := "matrixSolves", unfollowed := true, recurses := true, apart := false }
def MatrixSolvesSaid : Prop := matrixSolvesRow.holds Tryz.pinned (OpenSpec.ofChange matrixSolvesSpec)

/-- ITS FALSE NEIGHBOUR: 'it returns false'. Refute it at one input. -/
def matrixSolvesWrong : ChangeSpec := { name := "matrixSolves", fn := fun _ => fun
  | [d1, d2] => { results := [.lit (.bool false)], args := [d1, d2] }
  | _ => none }
def MatrixSolvesWrongFalsely : Prop := matrixSolvesRow.holds Tryz.pinned (OpenSpec.ofChange matrixSolvesWrong)

/-- 'eliminantlaw11.MatrixKernel': WHATEVER THE INPUT: true; the input reads as it did. -/
def matrixKernelSpec : ChangeSpec := { name := "matrixKernel", fn := fun _ => fun
  | [d1, d2, d3] => { results := [.lit (.bool true)], args := [d1, d2, d3] }
  | _ => none }
def matrixKernelRow : OpenClaim := { program := "ytjfmkcmepdedaaagreat", sum := "efb6a2f03ef69e3a22d67d4a65f7e29a74a5ffb2c00f20e5ea57e47f439b4039", func := "eliminant/eliminantlaw11.MatrixKernel", spec := "matrixKernel", unfollowed := true, recurses := true, apart := false }
def MatrixKernelSaid : Prop := matrixKernelRow.holds Tryz.pinned (OpenSpec.ofChange matrixKernelSpec)

/-- ITS FALSE NEIGHBOUR: 'it returns false'. Refute it at one input. -/
def matrixKernelWrong : ChangeSpec := { name := "matrixKernel", fn := fun _ => fun
  | [d1, d2, d3] => { results := [.lit (.bool false)], args := [d1, d2, d3] }
  | _ => none }
def MatrixKernelWrongFalsely : Prop := matrixKernelRow.holds Tryz.pinned (OpenSpec.ofChange matrixKernelWrong)

/-- 'eliminantlaw11.MatrixDeterminants': WHATEVER THE INPUT: true; the input reads as it did. -/
def matrixDeterminantsSpec : ChangeSpec := { name := "matrixDeterminants", fn := fun _ => fun
  | [d1, d2] => { results := [.lit (.bool true)], args := [d1, d2] }
  | _ => none }
def matrixDeterminantsRow : OpenClaim := { program := "ytjfmkcmepdedaaagreat", sum := "efb6a2f03ef69e3a22d67d4a65f7e29a74a5ffb2c00f20e5ea57e47f439b4039", func := "eliminant/eliminantlaw11.MatrixDeterminants", spec := "matrixDeterminants", unfollowed := true, recurses := true, apart := false }
def MatrixDeterminantsSaid : Prop := matrixDeterminantsRow.holds Tryz.pinned (OpenSpec.ofChange matrixDeterminantsSpec)

/-- ITS FALSE NEIGHBOUR: 'it returns false'. Refute it at one input. -/
def matrixDeterminantsWrong : ChangeSpec := { name := "matrixDeterminants", fn := fun _ => fun
  | [d1, d2] => { results := [.lit (.bool false)], args := [d1, d2] }
  | _ => none }
def MatrixDeterminantsWrongFalsely : Prop := matrixDeterminantsRow.holds Tryz.pinned (OpenSpec.ofChange matrixDeterminantsWrong)

/-- 'eliminantlaw11.MatrixInertia': WHATEVER THE INPUT: true; the input reads as it did. -/
def matrixInertiaSpec : ChangeSpec := { name := "matrixInertia", fn := fun _ => fun
  | [d1, d2] => { results := [.lit (.bool true)], args := [d1, d2] }
  | _ => none }
def matrixInertiaRow : OpenClaim := { program := "ytjfmkcmepdedaaagreat", sum := "efb6a2f03ef69e3a22d67d4a65f7e29a74a5ffb2c00f20e5ea57e47f439b4039", func := "eliminant/eliminantlaw11.MatrixInertia", spec := "matrixInertia", unfollowed := true, recurses := true, apart := false }
def MatrixInertiaSaid : Prop := matrixInertiaRow.holds Tryz.pinned (OpenSpec.ofChange matrixInertiaSpec)

/-- ITS FALSE NEIGHBOUR: 'it returns false'. Refute it at one input. -/
def matrixInertiaWrong : ChangeSpec := { name := "matrixInertia", fn := fun _ => fun
  | [d1, d2] => { results := [.lit (.bool false)], args := [d1, d2] }
  | _ => none }
def MatrixInertiaWrongFalsely : Prop := matrixInertiaRow.holds Tryz.pinned (OpenSpec.ofChange matrixInertiaWrong)

/-- 'eliminantlaw11.MatrixEchelon': WHATEVER THE INPUT: true; the input reads as it did. -/
def matrixEchelonSpec : ChangeSpec := { name := "matrixEchelon", fn := fun _ => fun
  | [d1, d2, d3] => { results := [.lit (.bool true)], args := [d1, d2, d3] }
  | _ => none }
def matrixEchelonRow : OpenClaim := { program := "ytjfmkcmepdedaaagreat", sum := "efb6a2f03ef69e3a22d67d4a65f7e29a74a5ffb2c00f20e5ea57e47f439b4039", func := "eliminant/eliminantlaw11.MatrixEchelon", spec := "matrixEchelon", unfollowed := true, recurses := true, apart := false }
def MatrixEchelonSaid : Prop := matrixEchelonRow.holds Tryz.pinned (OpenSpec.ofChange matrixEchelonSpec)

/-- ITS FALSE NEIGHBOUR: 'it returns false'. Refute it at one input. -/
def matrixEchelonWrong : ChangeSpec := { name := "matrixEchelon", fn := fun _ => fun
  | [d1, d2, d3] => { results := [.lit (.bool false)], args := [d1, d2, d3] }
  | _ => none }
def MatrixEchelonWrongFalsely : Prop := matrixEchelonRow.holds Tryz.pinned (OpenSpec.ofChange matrixEchelonWrong)

/-- 'eliminantlaw11.MatrixCayley': WHATEVER THE INPUT: true; the input reads as it did. -/
def matrixCayleySpec : ChangeSpec := { name := "matrixCayley", fn := fun _ => fun
  | [d1, d2] => { results := [.lit (.bool true)], args := [d1, d2] }
  | _ => none }
def matrixCayleyRow : OpenClaim := { program := "ytjfmkcmepdedaaagreat", sum := "efb6a2f03ef69e3a22d67d4a65f7e29a74a5ffb2c00f20e5ea57e47f439b4039", func := "eliminant/eliminantlaw11.MatrixCayley", spec := "matrixCayley", unfollowed := true, recurses := true, apart := false }
def MatrixCayleySaid : Prop := matrixCayleyRow.holds Tryz.pinned (OpenSpec.ofChange matrixCayleySpec)

/-- ITS FALSE NEIGHBOUR: 'it returns false'. Refute it at one input. -/
def matrixCayleyWrong : ChangeSpec := { name := "matrixCayley", fn := fun _ => fun
  | [d1, d2] => { results := [.lit (.bool false)], args := [d1, d2] }
  | _ => none }
def MatrixCayleyWrongFalsely : Prop := matrixCayleyRow.holds Tryz.pinned (OpenSpec.ofChange matrixCayleyWrong)

/-- 'eliminantlaw11.MatrixMatchesReference': WHATEVER THE INPUT: true; the input reads as it did. -/
def matrixMatchesReferenceSpec : ChangeSpec := { name := "matrixMatchesReference", fn := fun _ => fun
  | [d1, d2] => { results := [.lit (.bool true)], args := [d1, d2] }
  | _ => none }
def matrixMatchesReferenceRow : OpenClaim := { program := "ytjfmkcmepdedaaagreat", sum := "efb6a2f03ef69e3a22d67d4a65f7e29a74a5ffb2c00f20e5ea57e47f439b4039", func := "eliminant/eliminantlaw11.MatrixMatchesReference", spec := "matrixMatchesReference", unfollowed := true, recurses := true, apart := false }
def MatrixMatchesReferenceSaid : Prop := matrixMatchesReferenceRow.holds Tryz.pinned (OpenSpec.ofChange matrixMatchesReferenceSpec)

/-- ITS FALSE NEIGHBOUR: 'it returns false'. Refute it at one input. -/
def matrixMatchesReferenceWrong : ChangeSpec := { name := "matrixMatchesReference", fn := fun _ => fun
  | [d1, d2] => { results := [.lit (.bool false)], args := [d1, d2] }
  | _ => none }
def MatrixMatchesReferenceWrongFalsely : Prop := matrixMatchesReferenceRow.holds Tryz.pinned (OpenSpec.ofChange matrixMatchesReferenceWrong)

/- THE SECOND FORM. 'bulk': how many values and letters a reading holds, each counted each time it is reached (what is shared counts as often as it is met; a slice's spare places count too). A statement '..UptoSaid' is the law's where the arguments, and the package variables that the reading takes, are together of bulk at most 1048576: NARROWER than '..Said'. Prove '..Said' where nothing that the law and all that it calls make is longer than what came in: it says more and counts as full. Else prove '..UptoSaid'. A law counts once. -/
mutual
def uptoBulk {H : Type} : DataW H → Nat
  | .lit (.string bytes) => bytes.length + 1
  | .lit _ => 1
  | .nil => 1
  | .ptr d => uptoBulk d + 1
  | .slice elems spare => uptoBulkAll elems + uptoBulkAll spare + 1
  | .agg parts => uptoBulkAll parts + 1
  | .iface _ d => uptoBulk d + 1
  | .map entries => uptoBulkEntries entries + 1
  | .held _ => 1
def uptoBulkAll {H : Type} : List (DataW H) → Nat
  | [] => 0
  | d :: r => uptoBulk d + uptoBulkAll r
def uptoBulkEntries {H : Type} : List (Lit × DataW H) → Nat
  | [] => 0
  | x :: r => uptoBulkEntry x + uptoBulkEntries r
def uptoBulkEntry {H : Type} : Lit × DataW H → Nat
  | (.string bytes, d) => bytes.length + uptoBulk d + 1
  | (_, d) => uptoBulk d + 1
 end
def uptoSmall : (H : Type) → List (DataW H) → Bool := fun _ ds => decide (uptoBulkAll ds ≤ 1048576)
def OpenSpec.upto (s : _root_.Go.ChangeSpec) : _root_.Go.OpenSpec := { _root_.Go.OpenSpec.ofChange s with cond := some uptoSmall }

/-- 'eliminantlaw11.MatrixSquares', WHERE WHAT IT READS IS OF BULK AT MOST 1048576: true; the input reads as it did. -/
def matrixSquaresUptoRow : OpenClaim := { program := "ytjfmkcmepdedaaagreat", sum := "efb6a2f03ef69e3a22d67d4a65f7e29a74a5ffb2c00f20e5ea57e47f439b4039", func := "eliminant/eliminantlaw11.MatrixSquares", spec := "matrixSquares", unfollowed := true, recurses := true, apart := false, narrowed := true }
def MatrixSquaresUptoSaid : Prop := matrixSquaresUptoRow.holds Tryz.pinned (OpenSpec.upto matrixSquaresSpec)

/-- 'eliminantlaw11.MatrixSolves', WHERE WHAT IT READS IS OF BULK AT MOST 1048576: true; the input reads as it did. -/
def matrixSolvesUptoRow : OpenClaim := { program := "ytjfmkcmepdedaaagreat", sum := "efb6a2f03ef69e3a22d67d4a65f7e29a74a5ffb2c00f20e5ea57e47f439b4039", func := "eliminant/eliminantlaw11.MatrixSolves", spec := "matrixSolves", unfollowed := true, recurses := true, apart := false, narrowed := true }
def MatrixSolvesUptoSaid : Prop := matrixSolvesUptoRow.holds Tryz.pinned (OpenSpec.upto matrixSolvesSpec)

/-- 'eliminantlaw11.MatrixKernel', WHERE WHAT IT READS IS OF BULK AT MOST 1048576: true; the input reads as it did. -/
def matrixKernelUptoRow : OpenClaim := { program := "ytjfmkcmepdedaaagreat", sum := "efb6a2f03ef69e3a22d67d4a65f7e29a74a5ffb2c00f20e5ea57e47f439b4039", func := "eliminant/eliminantlaw11.MatrixKernel", spec := "matrixKernel", unfollowed := true, recurses := true, apart := false, narrowed := true }
def MatrixKernelUptoSaid : Prop := matrixKernelUptoRow.holds Tryz.pinned (OpenSpec.upto matrixKernelSpec)

/-- 'eliminantlaw11.MatrixDeterminants', WHERE WHAT IT READS IS OF BULK AT MOST 1048576: true; the input reads as it did. -/
def matrixDeterminantsUptoRow : OpenClaim := { program := "ytjfmkcmepdedaaagreat", sum := "efb6a2f03ef69e3a22d67d4a65f7e29a74a5ffb2c00f20e5ea57e47f439b4039", func := "eliminant/eliminantlaw11.MatrixDeterminants", spec := "matrixDeterminants", unfollowed := true, recurses := true, apart := false, narrowed := true }
def MatrixDeterminantsUptoSaid : Prop := matrixDeterminantsUptoRow.holds Tryz.pinned (OpenSpec.upto matrixDeterminantsSpec)

/-- 'eliminantlaw11.MatrixInertia', WHERE WHAT IT READS IS OF BULK AT MOST 1048576: true; the input reads as it did. -/
def matrixInertiaUptoRow : OpenClaim := { program := "ytjfmkcmepdedaaagreat", sum := "efb6a2f03ef69e3a22d67d4a65f7e29a74a5ffb2c00f20e5ea57e47f439b4039", func := "eliminant/eliminantlaw11.MatrixInertia", spec := "matrixInertia", unfollowed := true, recurses := true, apart := false, narrowed := true }
def MatrixInertiaUptoSaid : Prop := matrixInertiaUptoRow.holds Tryz.pinned (OpenSpec.upto matrixInertiaSpec)

/-- 'eliminantlaw11.MatrixEchelon', WHERE WHAT IT READS IS OF BULK AT MOST 1048576: true; the input reads as it did. -/
def matrixEchelonUptoRow : OpenClaim := { program := "ytjfmkcmepdedaaagreat", sum := "efb6a2f03ef69e3a22d67d4a65f7e29a74a5ffb2c00f20e5ea57e47f439b4039", func := "eliminant/eliminantlaw11.MatrixEchelon", spec := "matrixEchelon", unfollowed := true, recurses := true, apart := false, narrowed := true }
def MatrixEchelonUptoSaid : Prop := matrixEchelonUptoRow.holds Tryz.pinned (OpenSpec.upto matrixEchelonSpec)

/-- 'eliminantlaw11.MatrixCayley', WHERE WHAT IT READS IS OF BULK AT MOST 1048576: true; the input reads as it did. -/
def matrixCayleyUptoRow : OpenClaim := { program := "ytjfmkcmepdedaaagreat", sum := "efb6a2f03ef69e3a22d67d4a65f7e29a74a5ffb2c00f20e5ea57e47f439b4039", func := "eliminant/eliminantlaw11.MatrixCayley", spec := "matrixCayley", unfollowed := true, recurses := true, apart := false, narrowed := true }
def MatrixCayleyUptoSaid : Prop := matrixCayleyUptoRow.holds Tryz.pinned (OpenSpec.upto matrixCayleySpec)

/-- 'eliminantlaw11.MatrixMatchesReference', WHERE WHAT IT READS IS OF BULK AT MOST 1048576: true; the input reads as it did. -/
def matrixMatchesReferenceUptoRow : OpenClaim := { program := "ytjfmkcmepdedaaagreat", sum := "efb6a2f03ef69e3a22d67d4a65f7e29a74a5ffb2c00f20e5ea57e47f439b4039", func := "eliminant/eliminantlaw11.MatrixMatchesReference", spec := "matrixMatchesReference", unfollowed := true, recurses := true, apart := false, narrowed := true }
def MatrixMatchesReferenceUptoSaid : Prop := matrixMatchesReferenceUptoRow.holds Tryz.pinned (OpenSpec.upto matrixMatchesReferenceSpec)

end Rows
end Go.Proofs.YtjfmkcmepdedaaaGreat
