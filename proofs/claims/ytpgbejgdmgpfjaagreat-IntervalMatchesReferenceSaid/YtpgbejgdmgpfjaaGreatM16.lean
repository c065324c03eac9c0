/-
  The statement IntervalMatchesReferenceSaid: for every input the call returns true, and each argument reads afterwards as it read before. No condition.
-/
import Derived.Test.YtpgbejgdmgpfjaaGreatM15
import Derived.Calls
import Derived.Laws.Cells
import Derived.Below
import Derived.ChangeKeysEq
import Derived.Laws.StructEq
import Derived.Laws.Small
import Derived.Laws.IdiomCopy
import Derived.Laws.BytesString
import Derived.Laws.Append
import Derived.Laws.Tables
import Derived.Great.BuildSlice
import Derived.IntWalk
import Derived.Orders
import Derived.Laws.BitsLemmas
import Derived.Test.YtpgbejgdmgpfjaaGreatProg
import Derived.ChangeSame
import Derived.Carry
import Derived.ProofKit
import Derived.WideKeyArgs
import Derived.OpenShut
import Derived.WalkKit
import Derived.Test.YtpgbejgdmgpfjaaGreatRows

section
set_option linter.unusedVariables false
set_option linter.unusedSimpArgs false
namespace Go.Proofs.YtpgbejgdmgpfjaaGreat.intervalMatchesReference
open Go.Abs Go.ChangeShapes Go.WideShapes Go.ChangeAt Go.RowKit
set_option linter.unusedVariables false

theorem own : ownKnob Tryz.prog.godebug = none := by kernel_rfl

set_option maxRecDepth 100000 in
theorem lifted (os : Os) (started : os.Started) (H : Type) (enc : TypeId × Value → H) :
    ReturnsInHanded {} Tryz.checked os 3 .any (Rows.intervalMatchesReferenceSpec.pre6 enc Tryz.prog Tryz.f3 Rows.intervalMatchesReferenceRow.domain false) (Rows.intervalMatchesReferenceSpec.post enc Tryz.prog Tryz.f3 false true false false) := by
  refine returnsInHanded_of_change (C := Tryz.checked) own started (by kernel_rfl) Tryz.func3
    (ChangeSpec.witness6 (enc := enc) (C := Tryz.checked) false ⟨#[], #[.agg #[.int .i8 0, .int .i8 0, .int .u8 0], .agg #[.int .i8 0, .int .i8 0, .int .u8 0], .int .u8 0], []⟩ 8 (by kernel_rfl) (by kernel_rfl) (by kernel_rfl) (by kernel_rfl)) ?_
  intro W base args ds gs before hval0 hW hcnd _
  have hval : ∀ (j : Nat) t v, Tryz.f3.params[j]? = some t → args[j]? = some v → Value.okWide Tryz.prog W .any base t v := hval0
  exact law_row (P := Tryz.prog) (fn := Tryz.f3) (shs := [YtpgbejgdmgpfjaaGreat.rawI, YtpgbejgdmgpfjaaGreat.rawI, .int .u8]) (by kernel_rfl) (by kernel_rfl) rfl rfl Tryz.underlying4
    (fun ds hd => by
      match ds, hd with
      | [d0, d1, d2], _ => exact ⟨rfl, rfl, rfl⟩)
    (YtpgbejgdmgpfjaaGreat.ivr_row YtpgbejgdmgpfjaaGreat.Mem.k835) hval hW

theorem over : Rows.intervalMatchesReferenceRow.holds Tryz.pinned (OpenSpec.ofChange Rows.intervalMatchesReferenceSpec) :=
  OpenClaim.holds_of_wide 3 Tryz.f3 rfl rfl rfl rfl rfl rfl rfl ⟨rfl, rfl, rfl, rfl, rfl⟩ rfl rfl rfl rfl rfl (by kernel_rfl) Tryz.func3 (by kernel_rfl)
    (of_decide_eq_true (by kernel_rfl)) (by unfold Func.isWrapper; first | (rw [if_pos (by decide +kernel)]; kernel_rfl) | (rw [if_neg (by decide +kernel)]; exact ⟨rfl, rfl⟩))
    (fun os started H enc _ => lifted os started H enc)

/-- ████ THE STATEMENT ████ -/
theorem proved : Rows.IntervalMatchesReferenceSaid :=
  over
#print axioms proved
end Go.Proofs.YtpgbejgdmgpfjaaGreat.intervalMatchesReference
end

