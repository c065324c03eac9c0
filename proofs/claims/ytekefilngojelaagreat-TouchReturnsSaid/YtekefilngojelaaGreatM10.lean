/- A part of the proof. -/
import Derived.Test.YtekefilngojelaaGreatM9
set_option maxHeartbeats 0
set_option maxRecDepth 100000
set_option linter.unusedVariables false
set_option linter.unusedSimpArgs false
section
namespace Go.Proofs.YtekefilngojelaaGreat
open Go Go.Abs Go.Abs.M Go.Proofs
end Go.Proofs.YtekefilngojelaaGreat
end
