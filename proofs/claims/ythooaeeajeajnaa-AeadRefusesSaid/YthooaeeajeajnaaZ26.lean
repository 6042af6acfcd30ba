/- Lemmas of this claim, several texts joined. -/
import Derived.Test.YthooaeeajeajnaaZ10
set_option linter.unusedVariables false
set_option linter.unusedSimpArgs false
/- A name that another import makes ambiguous. -/
namespace Go.Proofs.Ythooaeeajeajnaa
open Go.Sec
abbrev Own (w : World) (base : Nat) (a : Option Addr) (n c : Nat) (l : List UInt8) : Prop := Sec.Own w base a n c l
end Go.Proofs.Ythooaeeajeajnaa
