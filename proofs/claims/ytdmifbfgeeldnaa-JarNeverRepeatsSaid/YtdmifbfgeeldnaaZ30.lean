/- Lemmas of this claim, several texts joined. -/
import Derived.Test.YtdmifbfgeeldnaaZ3
import Derived.Test.YtdmifbfgeeldnaaZ16
import Derived.Test.YtdmifbfgeeldnaaZ29
set_option linter.unusedVariables false
set_option linter.unusedSimpArgs false
/- Rows of structs of a number and bytes stay where another block turns. -/
namespace Go.Sec
open Go.RowKit
theorem OwnI.mut {T t : TypeId} {w w' : World} {base n c g : Nat} {a : Option Addr} {L : List (Int × List UInt8)} {vs : List Value} (h : OwnI T w base a n c L) (hB : Blk w g t vs) (ht : t ≠ T) (hne : ∀ v ∈ vs, ∀ x, v ≠ .int .u8 x) (hM : Mut g w w') : OwnI T w' base a n c L := by
  have hown := h.blk hB ht
  obtain ⟨h1, xs, h2, h3, h4⟩ := h
  have hno : (Value.slice a n c).ownBlock ≠ some g := hown
  refine ⟨h1, xs, ⟨h2.1, ?_⟩, h3, fun k hk => ?_⟩
  · rcases h2.2 with h | ⟨g', cap, cur, hv, hb, hh, r⟩
    · exact .inl h
    · refine .inr ⟨g', cap, cur, hv, hb, ?_, r⟩
      rw [hM.block g' (Array.getElem?_eq_some_iff.1 hh).1 (fun e => hno (by rw [hv]; exact e))]
      exact hh
  · obtain ⟨g', c', e1, e2, e3, e4, e5⟩ := h4 k hk
    refine ⟨g', c', e1, e2, e3.mut hB hne hM, e4, ?_⟩
    by_cases h0 : (L[k]).2.length = 0
    · exact .inl h0
    · rcases e5 with e5 | e5
      · exact absurd e5 h0
      · refine .inr fun b o e => ?_
        rcases e5 b o e with h | ⟨t', vs', hB', ht'⟩
        · exact .inl h
        · refine .inr ⟨t', vs', Blk.turn hM hB' ?_, ht'⟩
          subst e
          exact sl_off_blk e3 (by omega) hB hne
end Go.Sec
