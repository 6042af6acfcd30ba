/- Lemmas of this claim, several texts joined. -/
import Derived.Test.YtmdahnkcnagkjaaGreatZ6
import Derived.Test.YtmdahnkcnagkjaaGreatZ9
set_option maxRecDepth 100000
set_option maxHeartbeats 8000000
set_option linter.unusedVariables false
set_option linter.unusedSimpArgs false
/- The walk of octets.Unhex. -/
namespace Go.Proofs.P9
open Go.RowKit Go.Sec Go.Oct BigFrame
def E1 (c:UInt8):UInt8:=b8 (Lib.indexByte digits c)
end Go.Proofs.P9
