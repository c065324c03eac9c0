/-
  The statement MatrixMatchesReferenceSaid: for every input the call returns true, and each argument reads afterwards as it read before. No condition.
-/
import Derived.Test.YtjfmkcmepdedaaaGreatM18
import Derived.Test.YtjfmkcmepdedaaaGreatRows
set_option maxHeartbeats 0
set_option maxRecDepth 100000
set_option linter.unusedVariables false
set_option linter.unusedSimpArgs false
set_option linter.unusedSectionVars false
section
namespace Go.Proofs.YtjfmkcmepdedaaaGreat.matrixMatchesReference
open Go.Abs Go.ChangeShapes Go.WideShapes Go.ChangeAt Go.RowKit
theorem own:ownKnob Tryz.prog.godebug=none:=by kernel_rfl
set_option maxRecDepth 100000 in
theorem lifted (os:Os) (started:os.Started) (H:Type) (enc:TypeId × Value->H) :
  ReturnsInHanded {} Tryz.checked os 10 .any (Rows.matrixMatchesReferenceSpec.pre6 enc Tryz.prog Tryz.f10 Rows.matrixMatchesReferenceRow.domain false) (Rows.matrixMatchesReferenceSpec.post enc Tryz.prog Tryz.f10 false true false false):=by
 refine returnsInHanded_of_change (C:=Tryz.checked) own started (by kernel_rfl) Tryz.func10
  (ChangeSpec.witness6 (enc:=enc) (C:=Tryz.checked) false ⟨#[],#[.agg #[.slice none 0 0,.slice none 0 0,.slice none 0 0],.agg #[.int .u8 0,.int .u8 0,.int .u8 0,.int .u8 0]],[]⟩ 8 (by kernel_rfl) (by kernel_rfl) (by kernel_rfl) (by kernel_rfl)) ?_
 intro W base args ds gs before hval0 hW hcnd _
 have hval:∀ (j:Nat) t v,Tryz.f10.params[j]?=some t->args[j]?=some v->Value.okWide Tryz.prog W .any base t v:=hval0
 exact law_row (P:=Tryz.prog) (fn:=Tryz.f10) (shs:=[.arr 3 YtjfmkcmepdedaaaGreat.raw11,.arr 4 (.int .u8)]) (by kernel_rfl) (by kernel_rfl) rfl rfl Tryz.underlying4
  (fun ds hd=>by
   match ds,hd with
   | [d0,d1],_=>exact ⟨rfl,rfl,rfl⟩)
  ((YtjfmkcmepdedaaaGreat.mxm_row YtjfmkcmepdedaaaGreat.Mem.k647)) hval hW
theorem over:Rows.matrixMatchesReferenceRow.holds Tryz.pinned (OpenSpec.ofChange Rows.matrixMatchesReferenceSpec):=
 OpenClaim.holds_of_wide 10 Tryz.f10 rfl rfl rfl rfl rfl rfl rfl ⟨rfl,rfl,rfl,rfl,rfl⟩ rfl rfl rfl rfl rfl (by kernel_rfl) Tryz.func10 (by kernel_rfl)
  (of_decide_eq_true (by kernel_rfl)) (by unfold Func.isWrapper; first | (rw [if_pos (by decide +kernel)]; kernel_rfl) | (rw [if_neg (by decide +kernel)]; exact ⟨rfl,rfl⟩))
  (fun os started H enc _=>lifted os started H enc)
theorem proved:Rows.MatrixMatchesReferenceSaid:=
 over
#print axioms proved
end Go.Proofs.YtjfmkcmepdedaaaGreat.matrixMatchesReference
end
