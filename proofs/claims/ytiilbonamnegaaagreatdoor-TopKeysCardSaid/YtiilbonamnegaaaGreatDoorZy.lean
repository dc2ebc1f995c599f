/- A part of the proof of TopKeys. No condition. -/
import Derived.Test.YtiilbonamnegaaaGreatDoorRows
import Derived.Test.YtiilbonamnegaaaGreatDoorProg
import Derived.JoinedOf
namespace Go.Proofs.YtiilbonamnegaaaGreatDoor
open Go
set_option maxRecDepth 100000
theorem Fw : Tryz.prog.funcNamed "coresec/coresectop.TopKeys" = some 3 := by kernel_rfl
theorem HZ:joinedFacts Tryz.prog 3 Tryz.f3 Rows.topKeysSpec Rows.topKeysRow=true:=by kernel_rfl
end Go.Proofs.YtiilbonamnegaaaGreatDoor
