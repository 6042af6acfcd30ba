/- Lemmas of this claim, several texts joined. -/
import Derived.Test.YtmdahnkcnagkjaaGreatZ1
import Derived.Test.YtmdahnkcnagkjaaGreatZ29
set_option maxRecDepth 100000
set_option maxHeartbeats 8000000
set_option linter.unusedVariables false
set_option linter.unusedSimpArgs false
namespace Go.Case
open Go.Oct Go.Sha Go.Cook Go.Jar Go.Sec
theorem rnds_at {v:Int} {n k i:Nat} (h:i<k):(kQ v n k).getD i []=rnd (v*1000+(i:Int)) n:=by
 unfold kQ;rw [List.getD_eq_getElem?_getD,List.getElem?_map,List.getElem?_range h];rfl
end Go.Case
