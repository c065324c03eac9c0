/-
  A part of the proof: TvI3t.
-/
import Derived.Test.YtekefilngojelaaGreatM16
set_option maxHeartbeats 0
set_option maxRecDepth 100000
set_option linter.unusedVariables false
set_option linter.unusedSimpArgs false
set_option linter.unusedSectionVars false
section
namespace Go.Proofs.YtekefilngojelaaGreat
open Go Go.Abs Go.Abs.M Go.Proofs
def OU (l:List Rat):Prop:=(∀x∈l,Qs x 100)/\l.length<=65/\UOk (l.map qc)
end Go.Proofs.YtekefilngojelaaGreat
end
