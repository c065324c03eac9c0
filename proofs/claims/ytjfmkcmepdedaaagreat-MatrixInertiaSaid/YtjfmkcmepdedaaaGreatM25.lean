/-
  The statement MatrixInertiaSaid: for every input the call returns true, and each argument reads afterwards as it read before. No condition.
-/
import Derived.Test.YtjfmkcmepdedaaaGreatM24
import Derived.Test.YtjfmkcmepdedaaaGreatRows
set_option maxHeartbeats 0
set_option maxRecDepth 100000
set_option linter.unusedVariables false
set_option linter.unusedSimpArgs false
set_option linter.unusedSectionVars false
section
namespace Go.Proofs.YtjfmkcmepdedaaaGreat.matrixInertia
open Go.Abs Go.ChangeShapes Go.WideShapes Go.ChangeAt Go.RowKit
theorem own:ownKnob Tryz.prog.godebug=none:=by kernel_rfl
set_option maxRecDepth 100000 in
theorem lifted (os:Os) (started:os.Started) (H:Type) (enc:TypeId × Value->H) :
  ReturnsInHanded {} Tryz.checked os 7 .any (Rows.matrixInertiaSpec.pre6 enc Tryz.prog Tryz.f7 Rows.matrixInertiaRow.domain false) (Rows.matrixInertiaSpec.post enc Tryz.prog Tryz.f7 false true false false):=by
 refine returnsInHanded_of_change (C:=Tryz.checked) own started (by kernel_rfl) Tryz.func7
  (ChangeSpec.witness6 (enc:=enc) (C:=Tryz.checked) false ⟨#[],#[.agg #[.slice none 0 0,.slice none 0 0],.int .u8 0],[]⟩ 8 (by kernel_rfl) (by kernel_rfl) (by kernel_rfl) (by kernel_rfl)) ?_
 intro W base args ds gs before hval0 hW hcnd _
 have hval:∀ (j:Nat) t v,Tryz.f7.params[j]?=some t->args[j]?=some v->Value.okWide Tryz.prog W .any base t v:=hval0
 exact law_row (P:=Tryz.prog) (fn:=Tryz.f7) (shs:=[.arr 2 YtjfmkcmepdedaaaGreat.raw11,.int .u8]) (by kernel_rfl) (by kernel_rfl) rfl rfl Tryz.underlying4
  (fun ds hd=>by
   match ds,hd with
   | [d0,d1],_=>exact ⟨rfl,rfl,rfl⟩)
  ((YtjfmkcmepdedaaaGreat.mxi_row YtjfmkcmepdedaaaGreat.Mem.k647)) hval hW
theorem over:Rows.matrixInertiaRow.holds Tryz.pinned (OpenSpec.ofChange Rows.matrixInertiaSpec):=
 OpenClaim.holds_of_wide 7 Tryz.f7 rfl rfl rfl rfl rfl rfl rfl ⟨rfl,rfl,rfl,rfl,rfl⟩ rfl rfl rfl rfl rfl (by kernel_rfl) Tryz.func7 (by kernel_rfl)
  (of_decide_eq_true (by kernel_rfl)) (by unfold Func.isWrapper; first | (rw [if_pos (by decide +kernel)]; kernel_rfl) | (rw [if_neg (by decide +kernel)]; exact ⟨rfl,rfl⟩))
  (fun os started H enc _=>lifted os started H enc)
theorem proved:Rows.MatrixInertiaSaid:=
 over
#print axioms proved
end Go.Proofs.YtjfmkcmepdedaaaGreat.matrixInertia
end
