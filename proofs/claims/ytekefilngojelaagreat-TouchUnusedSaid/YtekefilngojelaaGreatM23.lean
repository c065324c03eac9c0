/-
  A part of the proof: TvG3t.
-/
import Derived.Test.YtekefilngojelaaGreatM15
set_option maxHeartbeats 0
set_option maxRecDepth 100000
set_option linter.unusedVariables false
set_option linter.unusedSimpArgs false
set_option linter.unusedSectionVars false
section
namespace Go.Proofs.YtekefilngojelaaGreat
open Go Go.Abs Go.Abs.M Go.Proofs
structure Bx.fit (x:Bx):Prop where
 ok:x.ok
 Jf:x.u0<=x.v0
 le1:x.u1<=x.v1
 u2:x.u2=0
 v2:x.v2=0
 u3:x.u3=0
 v3:x.v3=0
 u4:x.u4=0
 v4:x.v4=0
 u5:x.u5=0
 v5:x.v5=0
 u6:x.u6=0
 v6:x.v6=0
 u7:x.u7=0
 v7:x.v7=0
theorem q0:Qs (0:Rat) 100:=by have:=Qs.whole (n:=0) (k:=100) (by decide) (by omega);exact this
end Go.Proofs.YtekefilngojelaaGreat
end
