/-
  The statement TouchWholeSaid: for every input the call returns true, and each argument reads afterwards as it read before. No condition.
-/
import Derived.Test.YtlhbidjdkginkaaM11
import Derived.Test.YtlhbidjdkginkaaRows
set_option maxHeartbeats 0
set_option maxRecDepth 100000
set_option linter.unusedVariables false
set_option linter.unusedSimpArgs false
set_option linter.unusedSectionVars false
section
namespace Go.Proofs.Ytlhbidjdkginkaa.touchWhole
open Go.Abs Go.ChangeShapes Go.WideShapes Go.ChangeAt Go.RowKit
theorem own : ownKnob Try.prog.godebug = none := by kernel_rfl
set_option maxRecDepth 100000 in
theorem lifted (os : Os) (started : os.Started) (H : Type) (enc : TypeId × Value -> H) :
  ReturnsInHanded {} Try.checked os 3 .any (Rows.touchWholeSpec.pre6 enc Try.prog Try.f3 Rows.touchWholeRow.domain false) (Rows.touchWholeSpec.post enc Try.prog Try.f3 false true false false) := by
 refine returnsInHanded_of_change (C := Try.checked) own started (by kernel_rfl) Try.func3
  (ChangeSpec.witness6 (enc := enc) (C := Try.checked) false ⟨#[], #[.int .i64 0], []⟩ 8 (by kernel_rfl) (by kernel_rfl) (by kernel_rfl) (by kernel_rfl)) ?_
 intro W base args ds gs before hval0 hW hcnd _
 have hval : ∀ (j : Nat) t v, Try.f3.params[j]? = some t -> args[j]? = some v -> Value.okWide Try.prog W .any base t v := hval0
 exact law_row (P := Try.prog) (fn := Try.f3) (shs := [Shape.int .i64]) (by kernel_rfl) (by kernel_rfl) rfl rfl Try.underlying4
  (fun ds hd => by
   match ds, hd with
   | [d0], _ => exact ⟨rfl, rfl, rfl⟩)
  (Ytlhbidjdkginkaa.tw_row Ytlhbidjdkginkaa.Mem.k198) hval hW
theorem over : Rows.touchWholeRow.holds Try.pinned (OpenSpec.ofChange Rows.touchWholeSpec) :=
 OpenClaim.holds_of_wide 3 Try.f3 rfl rfl rfl rfl rfl rfl rfl ⟨rfl, rfl, rfl, rfl, rfl⟩ rfl rfl rfl rfl rfl (by kernel_rfl) Try.func3 (by kernel_rfl)
  (of_decide_eq_true (by kernel_rfl)) (by unfold Func.isWrapper; first | (rw [if_pos (by decide +kernel)]; kernel_rfl) | (rw [if_neg (by decide +kernel)]; exact ⟨rfl, rfl⟩))
  (fun os started H enc _ => lifted os started H enc)
theorem proved : Rows.TouchWholeSaid :=
 over
#print axioms proved
end Go.Proofs.Ytlhbidjdkginkaa.touchWhole
end
