/-
  The statement IntervalValidSaid: for every input the call returns true, and each argument reads afterwards as it read before. No condition.
-/
import Derived.Test.YtpgbejgdmgpfjaaGreatM14
import Derived.Calls
import Derived.Laws.Cells
import Derived.Below
import Derived.ChangeKeysEq
import Derived.Laws.StructEq
import Derived.Laws.Small
import Derived.Laws.IdiomCopy
import Derived.Laws.BytesString
import Derived.Laws.Append
import Derived.Laws.Tables
import Derived.Great.BuildSlice
import Derived.IntWalk
import Derived.Orders
import Derived.Laws.BitsLemmas
import Derived.Test.YtpgbejgdmgpfjaaGreatProg
import Derived.ChangeSame
import Derived.Carry
import Derived.ProofKit
import Derived.WideKeyArgs
import Derived.OpenShut
import Derived.WalkKit
import Derived.SizedLaws
import Derived.Test.YtpgbejgdmgpfjaaGreatRows

section
set_option linter.unusedVariables false
set_option linter.unusedSimpArgs false
namespace Go.Proofs.YtpgbejgdmgpfjaaGreat.intervalValid
open Go.Abs Go.ChangeShapes Go.WideShapes Go.ChangeAt Go.RowKit
set_option linter.unusedVariables false

theorem own : ownKnob Tryz.prog.godebug = none := by kernel_rfl

set_option maxRecDepth 100000 in
theorem lifted (os : Os) (started : os.Started) (H : Type) (enc : TypeId × Value → H) :
    ReturnsInHanded {} Tryz.checked os 4 .any (Rows.intervalValidSpec.pre6 enc Tryz.prog Tryz.f4 Rows.intervalValidRow.domain false) (Rows.intervalValidSpec.post enc Tryz.prog Tryz.f4 false true false false) := by
  refine returnsInHanded_of_change_sized (C := Tryz.checked) own started (by kernel_rfl) Tryz.func4
    (ChangeSpec.witness6 (enc := enc) (C := Tryz.checked) false ⟨#[], #[.agg #[.bool false, .slice none 0 0, .bool false, .slice none 0 0, .bool false, .slice none 0 0, .bool false, .slice none 0 0]], []⟩ 8 (by kernel_rfl) (by kernel_rfl) (by kernel_rfl) (by kernel_rfl)) ?_
  intro W base args ds gs before hval0 hW hcnd hz _
  have hval : ∀ (j : Nat) t v, Tryz.f4.params[j]? = some t → args[j]? = some v → Value.okWide Tryz.prog W .any base t v := hval0
  exact law_row_deep (P := Tryz.prog) (fn := Tryz.f4) (shs := [.struct [YtpgbejgdmgpfjaaGreat.ratS, YtpgbejgdmgpfjaaGreat.ratS]]) (by kernel_rfl) (by kernel_rfl) rfl rfl Tryz.underlying4
    (fun ds hd => by
      match ds, hd with
      | [d0], _ => exact ⟨rfl, rfl, rfl⟩)
    (YtpgbejgdmgpfjaaGreat.ivv_row (M := 26) (T := 32) (e := 144) YtpgbejgdmgpfjaaGreat.Mem.k835 (by kernel_rfl) (by kernel_rfl) (fun _ _ _ _ _ _ _ _ => by kernel_rfl) (fun _ _ _ _ _ _ _ _ => by kernel_rfl) (fun _ _ _ _ _ _ _ _ => by kernel_rfl) (fun _ _ _ _ _ _ _ _ => by kernel_rfl)) hval hW hz

theorem over : Rows.intervalValidRow.holds Tryz.pinned (OpenSpec.ofChange Rows.intervalValidSpec) :=
  OpenClaim.holds_of_wide 4 Tryz.f4 rfl rfl rfl rfl rfl rfl rfl ⟨rfl, rfl, rfl, rfl, rfl⟩ rfl rfl rfl rfl rfl (by kernel_rfl) Tryz.func4 (by kernel_rfl)
    (of_decide_eq_true (by kernel_rfl)) (by unfold Func.isWrapper; first | (rw [if_pos (by decide +kernel)]; kernel_rfl) | (rw [if_neg (by decide +kernel)]; exact ⟨rfl, rfl⟩))
    (fun os started H enc _ => lifted os started H enc)

/-- ████ THE STATEMENT ████ -/
theorem proved : Rows.IntervalValidSaid :=
  over
#print axioms proved
end Go.Proofs.YtpgbejgdmgpfjaaGreat.intervalValid
end

