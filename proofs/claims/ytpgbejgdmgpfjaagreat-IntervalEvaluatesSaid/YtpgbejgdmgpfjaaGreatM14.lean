/-
  The statement IntervalEvaluatesSaid: for every input the call returns true, and each argument reads afterwards as it read before. No condition.
-/
import Derived.Test.YtpgbejgdmgpfjaaGreatM13
import Derived.Test.YtpgbejgdmgpfjaaGreatRows
set_option maxHeartbeats 0
set_option maxRecDepth 100000
set_option linter.unusedVariables false
set_option linter.unusedSimpArgs false
set_option linter.unusedSectionVars false
section
namespace Go.Proofs.YtpgbejgdmgpfjaaGreat.intervalEvaluates
open Go.Abs Go.ChangeShapes Go.WideShapes Go.ChangeAt Go.RowKit
theorem own : ownKnob Tryz.prog.godebug = none := by kernel_rfl
set_option maxRecDepth 100000 in
theorem lifted (os : Os) (started : os.Started) (H : Type) (enc : TypeId × Value -> H) :
  ReturnsInHanded {} Tryz.checked os 10 .any (Rows.intervalEvaluatesSpec.pre6 enc Tryz.prog Tryz.f10 Rows.intervalEvaluatesRow.domain false) (Rows.intervalEvaluatesSpec.post enc Tryz.prog Tryz.f10 false true false false) := by
 refine returnsInHanded_of_change (C := Tryz.checked) own started (by kernel_rfl) Tryz.func10
  (ChangeSpec.witness6 (enc := enc) (C := Tryz.checked) false ⟨#[], #[.agg #[.slice none 0 0], .agg #[.int .i8 0, .int .i8 0, .int .u8 0, .int .i8 0, .int .i8 0, .int .u8 0, .int .i8 0, .int .i8 0, .int .u8 0, .int .i8 0, .int .i8 0, .int .u8 0], .agg #[.int .u8 0, .int .u8 0, .int .u8 0, .int .u8 0]], []⟩ 8 (by kernel_rfl) (by kernel_rfl) (by kernel_rfl) (by kernel_rfl)) ?_
 intro W base args ds gs before hval0 hW hcnd _
 have hval : ∀ (j : Nat) t v, Tryz.f10.params[j]? = some t -> args[j]? = some v -> Value.okWide Tryz.prog W .any base t v := hval0
 exact law_row (P := Tryz.prog) (fn := Tryz.f10) (shs := [YtpgbejgdmgpfjaaGreat.raw6, .arr 4 YtpgbejgdmgpfjaaGreat.rawI, .arr 4 (.int .u8)]) (by kernel_rfl) (by kernel_rfl) rfl rfl Tryz.underlying4
  (fun ds hd => by
   match ds, hd with
   | [d0, d1, d2], _ => exact ⟨rfl, rfl, rfl⟩)
  (YtpgbejgdmgpfjaaGreat.ive_row YtpgbejgdmgpfjaaGreat.Mem.k835) hval hW
theorem over : Rows.intervalEvaluatesRow.holds Tryz.pinned (OpenSpec.ofChange Rows.intervalEvaluatesSpec) :=
 OpenClaim.holds_of_wide 10 Tryz.f10 rfl rfl rfl rfl rfl rfl rfl ⟨rfl, rfl, rfl, rfl, rfl⟩ rfl rfl rfl rfl rfl (by kernel_rfl) Tryz.func10 (by kernel_rfl)
  (of_decide_eq_true (by kernel_rfl)) (by unfold Func.isWrapper; first | (rw [if_pos (by decide +kernel)]; kernel_rfl) | (rw [if_neg (by decide +kernel)]; exact ⟨rfl, rfl⟩))
  (fun os started H enc _ => lifted os started H enc)
theorem proved : Rows.IntervalEvaluatesSaid :=
 over
#print axioms proved
end Go.Proofs.YtpgbejgdmgpfjaaGreat.intervalEvaluates
end
