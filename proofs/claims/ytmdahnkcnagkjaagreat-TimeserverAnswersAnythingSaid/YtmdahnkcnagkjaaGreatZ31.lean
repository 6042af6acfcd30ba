/- Lemmas of this claim, several texts joined. -/
import Derived.Test.YtmdahnkcnagkjaaGreatZ12
import Derived.Test.YtmdahnkcnagkjaaGreatZ17
set_option maxRecDepth 100000
set_option maxHeartbeats 8000000
set_option linter.unusedVariables false
set_option linter.unusedSimpArgs false
/- The walks of the program's SHA-256: rotations, the constants, a block. -/
namespace Go.Sec
open Go.RowKit
def upW (f:Nat->UInt32) (l:List UInt32) (k:Nat):List UInt32:=(List.range k).map f++l.drop k
end Go.Sec
namespace Go.Proofs.P9
open Go.RowKit Go.Sec Go.Oct Go.Sha BigFrame
theorem dN (W h:List UInt32) (hl:h.length=8) (t:Nat):(rounds W h t).length=8:=by
 cases t with
 | zero=>exact hl
 | succ t=>rfl
end Go.Proofs.P9
