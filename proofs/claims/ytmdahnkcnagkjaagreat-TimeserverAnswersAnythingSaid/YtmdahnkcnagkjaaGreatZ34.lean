/- Lemmas of this claim, several texts joined. -/
import Derived.Test.YtmdahnkcnagkjaaGreatZ20
import Derived.Test.YtmdahnkcnagkjaaGreatZ24
set_option maxRecDepth 100000
set_option maxHeartbeats 8000000
set_option linter.unusedVariables false
set_option linter.unusedSimpArgs false
/- The walks of layer 3: HMAC and HKDF of the program. -/
namespace Go.Sha
open Go.Sec
def m5 (l:E7)(x:UInt8):E7:=(List.range 64).map λ i=>b' l i ^^^ x
theorem rK (l:E7)(x:UInt8):(m5 l x).length=64:=by simp [m5]
end Go.Sha
namespace Go.Sec
open Go.RowKit
end Go.Sec
namespace Go.Proofs.P9
open Go.RowKit Go.Sec Go.Oct Go.Sha BigFrame
theorem AG (i:Nat) (h:i<255):IntKind.u8.wrap ((i:Int)+1)=n8 (UInt8.ofNat (i+1)):=by
 rw [AU,lA];unfold n8;rw [UInt8.toNat_ofNat'];omega
end Go.Proofs.P9
