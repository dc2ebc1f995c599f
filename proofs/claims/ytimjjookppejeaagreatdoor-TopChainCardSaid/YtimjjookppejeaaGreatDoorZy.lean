/- A part of the proof of TopChain. No condition. -/
import Derived.Test.YtimjjookppejeaaGreatDoorRows
import Derived.Test.YtimjjookppejeaaGreatDoorProg
import Derived.JoinedOf
namespace Go.Proofs.YtimjjookppejeaaGreatDoor
open Go
set_option maxRecDepth 100000
theorem Ee : Tryz.prog.funcNamed "coresec/coresectop.TopChain" = some 3 := by kernel_rfl
theorem F1:joinedFacts Tryz.prog 3 Tryz.f3 Rows.topChainSpec Rows.topChainRow=true:=by kernel_rfl
end Go.Proofs.YtimjjookppejeaaGreatDoor
