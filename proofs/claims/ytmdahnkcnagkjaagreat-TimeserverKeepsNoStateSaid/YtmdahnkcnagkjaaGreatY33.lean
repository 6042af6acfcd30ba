/- Lemmas of this claim, several texts joined. -/
import Derived.Test.YtmdahnkcnagkjaaGreatY1
import Derived.Test.YtmdahnkcnagkjaaGreatY19
import Derived.Test.YtmdahnkcnagkjaaGreatY23
set_option maxRecDepth 100000
set_option maxHeartbeats 8000000
set_option linter.unusedVariables false
set_option linter.unusedSimpArgs false
/- The walks of layer 3: HMAC and HKDF of the program. -/
namespace Go.Sha
open Go.Sec
def mX (l:List UInt8)(x:UInt8):List UInt8:=(List.range 64).map λ i=>b' l i ^^^ x
theorem rO (l:List UInt8)(x:UInt8):(mX l x).length=64:=by simp [mX]
end Go.Sha
namespace Go.Sec
open Go.RowKit
end Go.Sec
namespace Go.Proofs.YtmdahnkcnagkjaaGreat
open Go.RowKit Go.Sec Go.Oct Go.Sha BigFrame
theorem zG (i:Nat) (h:i<255):IntKind.u8.wrap ((i:Int)+1)=n8 (UInt8.ofNat (i+1)):=by
 rw [Ap,nq];unfold n8;rw [UInt8.toNat_ofNat'];omega
end Go.Proofs.YtmdahnkcnagkjaaGreat
