/- Lemmas of this claim, several texts joined. -/
import Derived.ShutString
import Derived.Test.YtkjdlbjbppbmdaaZ34
set_option linter.unusedVariables false
set_option linter.unusedSimpArgs false
/- Opening and shutting a string. -/
namespace Go.Sec
open Go.ChangeShapes Go.WideShapes Go.RowKit
theorem open_str {H : Type} {enc : TypeId × Value → H} {P : Program} {w : World} {base : Nat} {spare : Nat → Bool} {held : Bool} {r : Reach} {b0 : Nat} {t : TypeId} {v : Value} {d : DataW H} {ps : List MemPlace} (ht : P.underlying t = some .string) (hval : Value.okWide P w r b0 t v) (hd : DataW.Trod enc P w base spare held t v d ps) :
    ∃ l : List UInt8, v = .string ⟨l.toArray⟩ ∧ d = .lit (.string l) ∧ ps = [] ∧ l.length ≤ maxLen := by
  obtain ⟨s, rfl⟩ := okWide_string ht hval
  obtain ⟨fuel, hf⟩ := hd
  cases fuel with
  | zero => simp [DataW.trod] at hf
  | succ n =>
    simp [DataW.trod, Value.cells, ht] at hf
    obtain ⟨h1, h2, h3⟩ := hf
    subst h3
    exact ⟨s.data.toList, rfl, h2.symm, rfl, le_of_eq_of_le (by rw [Array.length_toList]; rfl) h1⟩
theorem shut_str {H : Type} {enc : TypeId × Value → H} {P : Program} {w : World} {base : Nat} {spare : Nat → Bool} {held : Bool} {t : TypeId} {l : List UInt8} (ht : P.underlying t = some .string) (hl : l.length ≤ maxLen) :
    DataW.Trod enc P w base spare held t (.string ⟨l.toArray⟩) (.lit (.string l)) [] := ⟨1, by simp [DataW.trod, Value.cells, ht, ByteArray.size, hl]⟩
end Go.Sec
