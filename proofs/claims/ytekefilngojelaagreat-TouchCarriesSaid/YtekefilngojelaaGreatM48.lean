/- A part. -/
import Derived.Test.YtekefilngojelaaGreatM8
import Derived.Test.YtekefilngojelaaGreatM9
set_option maxHeartbeats 0
set_option maxRecDepth 100000
set_option linter.unusedVariables false
set_option linter.unusedSimpArgs false
section
namespace Go.Proofs.YtekefilngojelaaGreat.Mem
open Go Go.Abs Go.Proofs
noncomputable def om:FuncId->List Abs.Mode:=Sy Tryz.prog []
theorem abW:aH 7 [] ⟨[.val (.c (.v (.bool true)))],[]⟩:=gV (om:=om) ai mixed 300 7 (.a []) (.a ⟨[.val (.c (.v (.bool true)))],[]⟩) (by kernel_rfl)
end Go.Proofs.YtekefilngojelaaGreat.Mem
end
