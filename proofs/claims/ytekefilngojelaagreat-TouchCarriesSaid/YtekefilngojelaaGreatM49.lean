/-
  The statement TouchCarriesSaid: for every input the call returns true, and each argument reads afterwards as it read before. No condition.
-/
import Derived.Test.YtekefilngojelaaGreatRows
import Derived.WalkKit
import Derived.ProofKit
import Derived.OpenShut
import Derived.Test.YtekefilngojelaaGreatM18
import Derived.Test.YtekefilngojelaaGreatM46
import Derived.Test.YtekefilngojelaaGreatM47
import Derived.Test.YtekefilngojelaaGreatM48
set_option maxHeartbeats 0
set_option maxRecDepth 100000
set_option linter.unusedVariables false
set_option linter.unusedSimpArgs false
section
namespace Go.Proofs.YtekefilngojelaaGreat.touchCarries
open Go.Abs Go.ChangeShapes Go.WideShapes Go.ChangeAt Go.RowKit
theorem own:ownKnob Tryz.prog.godebug=none:=by kernel_rfl
set_option maxRecDepth 100000 in
theorem lifted (os:Os) (started:os.Started) (H:Type) (enc:TypeId×Value->H) :
  ReturnsInHanded {} Tryz.checked os 4 .any (Rows.touchCarriesSpec.pre6 enc Tryz.prog Tryz.f4 Rows.touchCarriesRow.domain false) (Rows.touchCarriesSpec.post enc Tryz.prog Tryz.f4 false true false false):=by
 refine returnsInHanded_of_change_sized (C:=Tryz.checked) own started (by kernel_rfl) Tryz.func4
  (ChangeSpec.witness6 (enc:=enc) (C:=Tryz.checked) false ⟨#[],#[.agg #[.int .u8 0,.slice none 0 0,.slice none 0 0],.agg #[.int .u8 0,.int .u8 0,.int .u8 0,.int .u8 0],.agg #[.slice none 0 0]],[]⟩ 8 (by kernel_rfl) (by kernel_rfl) (by kernel_rfl) (by kernel_rfl)) ?_
 intro W base args ds gs before XF hW ahH hz _;have pU:∀(j:Nat) t v,Tryz.f4.params[j]?=some t->args[j]?=some v->Value.okWide Tryz.prog W .any base t v:=XF;exact D8 (P:=Tryz.prog) (fn:=Tryz.f4) (Lb:=[YtekefilngojelaaGreat.JC,.arr 4 (.int .u8),YtekefilngojelaaGreat.Lo]) (by kernel_rfl) (by kernel_rfl) rfl rfl Tryz.underlying4
  (fun ds hd=>by
   match ds,hd with
   | [d0,d1,d2],_=>exact⟨rfl,rfl,rfl⟩)
  (YtekefilngojelaaGreat.D9 (M:=22) (M2:=23) (T:=25) (e:=29) (e2:=86) YtekefilngojelaaGreat.Mem.abW (by kernel_rfl) (by kernel_rfl) (by kernel_rfl) (by kernel_rfl) (fun _ _ _=>by kernel_rfl) (fun _ _ _=>by kernel_rfl)) pU hW hz
theorem abX:Rows.touchCarriesRow.holds Tryz.pinned (OpenSpec.ofChange Rows.touchCarriesSpec):=
 OpenClaim.holds_of_wide 4 Tryz.f4 rfl rfl rfl rfl rfl rfl rfl ⟨rfl,rfl,rfl,rfl,rfl⟩ rfl rfl rfl rfl rfl (by kernel_rfl) Tryz.func4 (by kernel_rfl)
  (of_decide_eq_true (by kernel_rfl)) (by unfold Func.isWrapper;first|(rw[if_pos (by decide +kernel)];kernel_rfl)|(rw[if_neg (by decide +kernel)];exact⟨rfl,rfl⟩))
  (fun os started H enc _=>lifted os started H enc)
theorem proved:Rows.TouchCarriesSaid:=
 abX
#print axioms proved
end Go.Proofs.YtekefilngojelaaGreat.touchCarries
end
