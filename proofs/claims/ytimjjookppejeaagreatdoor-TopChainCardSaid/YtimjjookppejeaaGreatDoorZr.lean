/- A part of the proof of TopChain. No condition. -/
import Derived.Laws.FloatArith
import Derived.WalkKit
namespace Go.Gk
open Go Ieee
section
variable {P : Program} {w : World}
end
section
variable {P : Program} {w : World}
end
end Go.Gk
