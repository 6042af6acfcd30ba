/- Lemmas of this claim, several texts joined. -/
import Derived.Deep.Matrix
import Derived.Deep.SlicePairs
import Derived.ProofKit
import Derived.Test.YtmdahnkcnagkjaaGreatY10
set_option maxRecDepth 100000
set_option maxHeartbeats 8000000
set_option linter.unusedVariables false
set_option linter.unusedSimpArgs false
/- What arguments of a law read as: bytes, and lists of bytes. -/
namespace Go.Sec
open Go.RowKit Go.ChangeShapes Go.WideShapes Go.Deep
theorem uW (x:Addr) (w:World)(v:Value)(h:w.cell? x=some v):x=⟨x.block,x.off,none⟩:=by
 cases x with
 | mk b o s =>
  unfold World.cell? at h;split at h
  ·cases s with
   | none=>rfl
   | some _=>simp at h
  ·cases h
section
variable {H:Type} {enc:TypeId × Value->H} {P:Program} {w:World} {base:Nat} {held:Bool}
end
end Go.Sec
