/-
  No cell of these rows narrows 'for every input' (looked for: loops, veiled, ifaces, maps, wideKeys, modest, calm, conditions, laid).
  DERIVED. THE GIVEN ROWS OF THIS SEAT. 13 by the template 'for every input the law returns true; each argument reads behind the call as it read before'; 0 by the template 'total and deterministic' (their statements: YthooaeeajeajnaaTotals.lean).
  GIVEN WITH THE SEED: the statements are not yours to turn. If you find one false, say at which input.
  Laid BY PROGRAM, IN A SANDBOX (cutbox-rows.mjs): the forced cells as the released guide's own fill.sh prints them over the translation 3b3cddba913da0d4… (all of the seat's roots in one cut). By AI agents, Wed Nov 11 2026. No macro, syntax, notation, axiom, sorry.
-/
import Derived.Test.YthooaeeajeajnaaChecked
import GoSem.Claim
import GoSem.ClaimJoined
import GoSem.ClaimMapViews
import Derived.JoinedTies
import Derived.KernelRfl
namespace Go.Proofs.Ythooaeeajeajnaa
/- THE CELL 'sum', in the pinned program and in every row, IS THE sha256 OF THE DUMP (.gsa) THAT YthooaeeajeajnaaProg.lean LOADS. Nothing in Lean hashes anything: it is a label: what it is worth is what the hold of that sum in a sandbox is worth. -/
noncomputable def Try.pinned : Pinned := { name := "ythooaeeajeajnaa", sum := "3b3cddba913da0d403b6500887326e348d285380a1b2178006db12d192d6ad92", checked := Try.checked }
namespace Rows
def none {H : Type} : Left H := { results := [], args := [] }

/-- 'sectimelaw04.CipherPermutes': WHATEVER THE INPUT: true; the input reads as it did. -/
def cipherPermutesSpec : ChangeSpec := { name := "cipherPermutes", fn := fun _ => fun
  | [d1, d2, d3] => { results := [.lit (.bool true)], args := [d1, d2, d3] }
  | _ => none }
def cipherPermutesRow : OpenClaim := { program := "ythooaeeajeajnaa", sum := "3b3cddba913da0d403b6500887326e348d285380a1b2178006db12d192d6ad92", func := "sectime/sectimelaw04.CipherPermutes", spec := "cipherPermutes", inPlace := ["internal/bytealg.IndexByteString", "internal/abi.NoEscape"], apart := false }
def CipherPermutesSaid : Prop := cipherPermutesRow.holds Try.pinned (OpenSpec.ofChange cipherPermutesSpec)

/-- ITS FALSE NEIGHBOUR: 'it returns false'. Refute it at one input. -/
def cipherPermutesWrong : ChangeSpec := { name := "cipherPermutes", fn := fun _ => fun
  | [d1, d2, d3] => { results := [.lit (.bool false)], args := [d1, d2, d3] }
  | _ => none }
def CipherPermutesWrongFalsely : Prop := cipherPermutesRow.holds Try.pinned (OpenSpec.ofChange cipherPermutesWrong)

/-- 'sectimelaw04.CipherBytes': WHATEVER THE INPUT: true; the input reads as it did. -/
def cipherBytesSpec : ChangeSpec := { name := "cipherBytes", fn := fun _ => fun
  | [d1, d2, d3] => { results := [.lit (.bool true)], args := [d1, d2, d3] }
  | _ => none }
def cipherBytesRow : OpenClaim := { program := "ythooaeeajeajnaa", sum := "3b3cddba913da0d403b6500887326e348d285380a1b2178006db12d192d6ad92", func := "sectime/sectimelaw04.CipherBytes", spec := "cipherBytes", inPlace := ["internal/bytealg.IndexByteString", "internal/abi.NoEscape"], apart := false }
def CipherBytesSaid : Prop := cipherBytesRow.holds Try.pinned (OpenSpec.ofChange cipherBytesSpec)

/-- ITS FALSE NEIGHBOUR: 'it returns false'. Refute it at one input. -/
def cipherBytesWrong : ChangeSpec := { name := "cipherBytes", fn := fun _ => fun
  | [d1, d2, d3] => { results := [.lit (.bool false)], args := [d1, d2, d3] }
  | _ => none }
def CipherBytesWrongFalsely : Prop := cipherBytesRow.holds Try.pinned (OpenSpec.ofChange cipherBytesWrong)

/-- 'sectimelaw05.CmacOneBlock': WHATEVER THE INPUT: true; the input reads as it did. -/
def cmacOneBlockSpec : ChangeSpec := { name := "cmacOneBlock", fn := fun _ => fun
  | [d1, d2, d3, d4] => { results := [.lit (.bool true)], args := [d1, d2, d3, d4] }
  | _ => none }
def cmacOneBlockRow : OpenClaim := { program := "ythooaeeajeajnaa", sum := "3b3cddba913da0d403b6500887326e348d285380a1b2178006db12d192d6ad92", func := "sectime/sectimelaw05.CmacOneBlock", spec := "cmacOneBlock", inPlace := ["internal/bytealg.IndexByteString", "internal/abi.NoEscape"], apart := false }
def CmacOneBlockSaid : Prop := cmacOneBlockRow.holds Try.pinned (OpenSpec.ofChange cmacOneBlockSpec)

/-- ITS FALSE NEIGHBOUR: 'it returns false'. Refute it at one input. -/
def cmacOneBlockWrong : ChangeSpec := { name := "cmacOneBlock", fn := fun _ => fun
  | [d1, d2, d3, d4] => { results := [.lit (.bool false)], args := [d1, d2, d3, d4] }
  | _ => none }
def CmacOneBlockWrongFalsely : Prop := cmacOneBlockRow.holds Try.pinned (OpenSpec.ofChange cmacOneBlockWrong)

/-- 'sectimelaw04.CipherUndoes': WHATEVER THE INPUT: true; the input reads as it did. -/
def cipherUndoesSpec : ChangeSpec := { name := "cipherUndoes", fn := fun _ => fun
  | [d1, d2] => { results := [.lit (.bool true)], args := [d1, d2] }
  | _ => none }
def cipherUndoesRow : OpenClaim := { program := "ythooaeeajeajnaa", sum := "3b3cddba913da0d403b6500887326e348d285380a1b2178006db12d192d6ad92", func := "sectime/sectimelaw04.CipherUndoes", spec := "cipherUndoes", inPlace := ["internal/bytealg.IndexByteString", "internal/abi.NoEscape"], unfollowed := true, recurses := true, apart := false }
def CipherUndoesSaid : Prop := cipherUndoesRow.holds Try.pinned (OpenSpec.ofChange cipherUndoesSpec)

/-- ITS FALSE NEIGHBOUR: 'it returns false'. Refute it at one input. -/
def cipherUndoesWrong : ChangeSpec := { name := "cipherUndoes", fn := fun _ => fun
  | [d1, d2] => { results := [.lit (.bool false)], args := [d1, d2] }
  | _ => none }
def CipherUndoesWrongFalsely : Prop := cipherUndoesRow.holds Try.pinned (OpenSpec.ofChange cipherUndoesWrong)

/-- 'sectimelaw04.CipherGoesOn': WHATEVER THE INPUT: true; the input reads as it did. -/
def cipherGoesOnSpec : ChangeSpec := { name := "cipherGoesOn", fn := fun _ => fun
  | [d1, d2, d3, d4] => { results := [.lit (.bool true)], args := [d1, d2, d3, d4] }
  | _ => none }
def cipherGoesOnRow : OpenClaim := { program := "ythooaeeajeajnaa", sum := "3b3cddba913da0d403b6500887326e348d285380a1b2178006db12d192d6ad92", func := "sectime/sectimelaw04.CipherGoesOn", spec := "cipherGoesOn", inPlace := ["internal/bytealg.IndexByteString", "internal/abi.NoEscape"], unfollowed := true, recurses := true, apart := false }
def CipherGoesOnSaid : Prop := cipherGoesOnRow.holds Try.pinned (OpenSpec.ofChange cipherGoesOnSpec)

/-- ITS FALSE NEIGHBOUR: 'it returns false'. Refute it at one input. -/
def cipherGoesOnWrong : ChangeSpec := { name := "cipherGoesOn", fn := fun _ => fun
  | [d1, d2, d3, d4] => { results := [.lit (.bool false)], args := [d1, d2, d3, d4] }
  | _ => none }
def CipherGoesOnWrongFalsely : Prop := cipherGoesOnRow.holds Try.pinned (OpenSpec.ofChange cipherGoesOnWrong)

/-- 'sectimelaw04.CipherActs': WHATEVER THE INPUT: true; the input reads as it did. -/
def cipherActsSpec : ChangeSpec := { name := "cipherActs", fn := fun _ => fun
  | [d1, d2, d3] => { results := [.lit (.bool true)], args := [d1, d2, d3] }
  | _ => none }
def cipherActsRow : OpenClaim := { program := "ythooaeeajeajnaa", sum := "3b3cddba913da0d403b6500887326e348d285380a1b2178006db12d192d6ad92", func := "sectime/sectimelaw04.CipherActs", spec := "cipherActs", inPlace := ["internal/bytealg.IndexByteString", "internal/abi.NoEscape"], unfollowed := true, recurses := true, apart := false }
def CipherActsSaid : Prop := cipherActsRow.holds Try.pinned (OpenSpec.ofChange cipherActsSpec)

/-- ITS FALSE NEIGHBOUR: 'it returns false'. Refute it at one input. -/
def cipherActsWrong : ChangeSpec := { name := "cipherActs", fn := fun _ => fun
  | [d1, d2, d3] => { results := [.lit (.bool false)], args := [d1, d2, d3] }
  | _ => none }
def CipherActsWrongFalsely : Prop := cipherActsRow.holds Try.pinned (OpenSpec.ofChange cipherActsWrong)

/-- 'sectimelaw05.CmacDoubles': WHATEVER THE INPUT: true; the input reads as it did. -/
def cmacDoublesSpec : ChangeSpec := { name := "cmacDoubles", fn := fun _ => fun
  | [d1, d2] => { results := [.lit (.bool true)], args := [d1, d2] }
  | _ => none }
def cmacDoublesRow : OpenClaim := { program := "ythooaeeajeajnaa", sum := "3b3cddba913da0d403b6500887326e348d285380a1b2178006db12d192d6ad92", func := "sectime/sectimelaw05.CmacDoubles", spec := "cmacDoubles", inPlace := ["internal/bytealg.IndexByteString", "internal/abi.NoEscape"], apart := false }
def CmacDoublesSaid : Prop := cmacDoublesRow.holds Try.pinned (OpenSpec.ofChange cmacDoublesSpec)

/-- ITS FALSE NEIGHBOUR: 'it returns false'. Refute it at one input. -/
def cmacDoublesWrong : ChangeSpec := { name := "cmacDoubles", fn := fun _ => fun
  | [d1, d2] => { results := [.lit (.bool false)], args := [d1, d2] }
  | _ => none }
def CmacDoublesWrongFalsely : Prop := cmacDoublesRow.holds Try.pinned (OpenSpec.ofChange cmacDoublesWrong)

/-- 'sectimelaw05.CmacLengths': WHATEVER THE INPUT: true; the input reads as it did. -/
def cmacLengthsSpec : ChangeSpec := { name := "cmacLengths", fn := fun _ => fun
  | [d1, d2, d3] => { results := [.lit (.bool true)], args := [d1, d2, d3] }
  | _ => none }
def cmacLengthsRow : OpenClaim := { program := "ythooaeeajeajnaa", sum := "3b3cddba913da0d403b6500887326e348d285380a1b2178006db12d192d6ad92", func := "sectime/sectimelaw05.CmacLengths", spec := "cmacLengths", inPlace := ["internal/bytealg.IndexByteString", "internal/abi.NoEscape"], apart := false }
def CmacLengthsSaid : Prop := cmacLengthsRow.holds Try.pinned (OpenSpec.ofChange cmacLengthsSpec)

/-- ITS FALSE NEIGHBOUR: 'it returns false'. Refute it at one input. -/
def cmacLengthsWrong : ChangeSpec := { name := "cmacLengths", fn := fun _ => fun
  | [d1, d2, d3] => { results := [.lit (.bool false)], args := [d1, d2, d3] }
  | _ => none }
def CmacLengthsWrongFalsely : Prop := cmacLengthsRow.holds Try.pinned (OpenSpec.ofChange cmacLengthsWrong)

/-- 'sectimelaw05.CmacActs': WHATEVER THE INPUT: true; the input reads as it did. -/
def cmacActsSpec : ChangeSpec := { name := "cmacActs", fn := fun _ => fun
  | [d1, d2, d3] => { results := [.lit (.bool true)], args := [d1, d2, d3] }
  | _ => none }
def cmacActsRow : OpenClaim := { program := "ythooaeeajeajnaa", sum := "3b3cddba913da0d403b6500887326e348d285380a1b2178006db12d192d6ad92", func := "sectime/sectimelaw05.CmacActs", spec := "cmacActs", inPlace := ["internal/bytealg.IndexByteString", "internal/abi.NoEscape"], apart := false }
def CmacActsSaid : Prop := cmacActsRow.holds Try.pinned (OpenSpec.ofChange cmacActsSpec)

/-- ITS FALSE NEIGHBOUR: 'it returns false'. Refute it at one input. -/
def cmacActsWrong : ChangeSpec := { name := "cmacActs", fn := fun _ => fun
  | [d1, d2, d3] => { results := [.lit (.bool false)], args := [d1, d2, d3] }
  | _ => none }
def CmacActsWrongFalsely : Prop := cmacActsRow.holds Try.pinned (OpenSpec.ofChange cmacActsWrong)

/-- 'sectimelaw06.AeadParts': WHATEVER THE INPUT: true; the input reads as it did. -/
def aeadPartsSpec : ChangeSpec := { name := "aeadParts", fn := fun _ => fun
  | [d1, d2, d3] => { results := [.lit (.bool true)], args := [d1, d2, d3] }
  | _ => none }
def aeadPartsRow : OpenClaim := { program := "ythooaeeajeajnaa", sum := "3b3cddba913da0d403b6500887326e348d285380a1b2178006db12d192d6ad92", func := "sectime/sectimelaw06.AeadParts", spec := "aeadParts", inPlace := ["internal/bytealg.IndexByteString", "internal/abi.NoEscape"], unfollowed := true, recurses := true, apart := false }
def AeadPartsSaid : Prop := aeadPartsRow.holds Try.pinned (OpenSpec.ofChange aeadPartsSpec)

/-- ITS FALSE NEIGHBOUR: 'it returns false'. Refute it at one input. -/
def aeadPartsWrong : ChangeSpec := { name := "aeadParts", fn := fun _ => fun
  | [d1, d2, d3] => { results := [.lit (.bool false)], args := [d1, d2, d3] }
  | _ => none }
def AeadPartsWrongFalsely : Prop := aeadPartsRow.holds Try.pinned (OpenSpec.ofChange aeadPartsWrong)

/-- 'sectimelaw06.AeadActs': WHATEVER THE INPUT: true; the input reads as it did. -/
def aeadActsSpec : ChangeSpec := { name := "aeadActs", fn := fun _ => fun
  | [d1, d2, d3] => { results := [.lit (.bool true)], args := [d1, d2, d3] }
  | _ => none }
def aeadActsRow : OpenClaim := { program := "ythooaeeajeajnaa", sum := "3b3cddba913da0d403b6500887326e348d285380a1b2178006db12d192d6ad92", func := "sectime/sectimelaw06.AeadActs", spec := "aeadActs", inPlace := ["internal/bytealg.IndexByteString", "internal/abi.NoEscape"], unfollowed := true, recurses := true, apart := false }
def AeadActsSaid : Prop := aeadActsRow.holds Try.pinned (OpenSpec.ofChange aeadActsSpec)

/-- ITS FALSE NEIGHBOUR: 'it returns false'. Refute it at one input. -/
def aeadActsWrong : ChangeSpec := { name := "aeadActs", fn := fun _ => fun
  | [d1, d2, d3] => { results := [.lit (.bool false)], args := [d1, d2, d3] }
  | _ => none }
def AeadActsWrongFalsely : Prop := aeadActsRow.holds Try.pinned (OpenSpec.ofChange aeadActsWrong)

/-- 'sectimelaw06.AeadOpens': WHATEVER THE INPUT: true; the input reads as it did. -/
def aeadOpensSpec : ChangeSpec := { name := "aeadOpens", fn := fun _ => fun
  | [d1, d2, d3] => { results := [.lit (.bool true)], args := [d1, d2, d3] }
  | _ => none }
def aeadOpensRow : OpenClaim := { program := "ythooaeeajeajnaa", sum := "3b3cddba913da0d403b6500887326e348d285380a1b2178006db12d192d6ad92", func := "sectime/sectimelaw06.AeadOpens", spec := "aeadOpens", inPlace := ["internal/bytealg.IndexByteString", "internal/abi.NoEscape"], unfollowed := true, recurses := true, apart := false }
def AeadOpensSaid : Prop := aeadOpensRow.holds Try.pinned (OpenSpec.ofChange aeadOpensSpec)

/-- ITS FALSE NEIGHBOUR: 'it returns false'. Refute it at one input. -/
def aeadOpensWrong : ChangeSpec := { name := "aeadOpens", fn := fun _ => fun
  | [d1, d2, d3] => { results := [.lit (.bool false)], args := [d1, d2, d3] }
  | _ => none }
def AeadOpensWrongFalsely : Prop := aeadOpensRow.holds Try.pinned (OpenSpec.ofChange aeadOpensWrong)

/-- 'sectimelaw06.AeadRefuses': WHATEVER THE INPUT: true; the input reads as it did. -/
def aeadRefusesSpec : ChangeSpec := { name := "aeadRefuses", fn := fun _ => fun
  | [d1, d2, d3, d4, d5] => { results := [.lit (.bool true)], args := [d1, d2, d3, d4, d5] }
  | _ => none }
def aeadRefusesRow : OpenClaim := { program := "ythooaeeajeajnaa", sum := "3b3cddba913da0d403b6500887326e348d285380a1b2178006db12d192d6ad92", func := "sectime/sectimelaw06.AeadRefuses", spec := "aeadRefuses", inPlace := ["internal/bytealg.IndexByteString", "internal/abi.NoEscape"], unfollowed := true, recurses := true, apart := false }
def AeadRefusesSaid : Prop := aeadRefusesRow.holds Try.pinned (OpenSpec.ofChange aeadRefusesSpec)

/-- ITS FALSE NEIGHBOUR: 'it returns false'. Refute it at one input. -/
def aeadRefusesWrong : ChangeSpec := { name := "aeadRefuses", fn := fun _ => fun
  | [d1, d2, d3, d4, d5] => { results := [.lit (.bool false)], args := [d1, d2, d3, d4, d5] }
  | _ => none }
def AeadRefusesWrongFalsely : Prop := aeadRefusesRow.holds Try.pinned (OpenSpec.ofChange aeadRefusesWrong)

/- THE SECOND FORM. 'bulk': how many values and letters a reading holds, each counted each time it is reached (what is shared counts as often as it is met; a slice's spare places count too). A statement '..UptoSaid' is the law's where the arguments, and the package variables that the reading takes, are together of bulk at most 1048576: NARROWER than '..Said'. Prove '..Said' where nothing that the law and all that it calls make is longer than what came in: it says more and counts as full. Else prove '..UptoSaid'. A law counts once. -/
mutual
def uptoBulk {H : Type} : DataW H → Nat
  | .lit (.string bytes) => bytes.length + 1
  | .lit _ => 1
  | .nil => 1
  | .ptr d => uptoBulk d + 1
  | .slice elems spare => uptoBulkAll elems + uptoBulkAll spare + 1
  | .agg parts => uptoBulkAll parts + 1
  | .iface _ d => uptoBulk d + 1
  | .map entries => uptoBulkEntries entries + 1
  | .held _ => 1
def uptoBulkAll {H : Type} : List (DataW H) → Nat
  | [] => 0
  | d :: r => uptoBulk d + uptoBulkAll r
def uptoBulkEntries {H : Type} : List (Lit × DataW H) → Nat
  | [] => 0
  | x :: r => uptoBulkEntry x + uptoBulkEntries r
def uptoBulkEntry {H : Type} : Lit × DataW H → Nat
  | (.string bytes, d) => bytes.length + uptoBulk d + 1
  | (_, d) => uptoBulk d + 1
 end
def uptoSmall : (H : Type) → List (DataW H) → Bool := fun _ ds => decide (uptoBulkAll ds ≤ 1048576)
def OpenSpec.upto (s : _root_.Go.ChangeSpec) : _root_.Go.OpenSpec := { _root_.Go.OpenSpec.ofChange s with cond := some uptoSmall }

/-- 'sectimelaw04.CipherPermutes', WHERE WHAT IT READS IS OF BULK AT MOST 1048576: true; the input reads as it did. -/
def cipherPermutesUptoRow : OpenClaim := { program := "ythooaeeajeajnaa", sum := "3b3cddba913da0d403b6500887326e348d285380a1b2178006db12d192d6ad92", func := "sectime/sectimelaw04.CipherPermutes", spec := "cipherPermutes", inPlace := ["internal/bytealg.IndexByteString", "internal/abi.NoEscape"], apart := false, narrowed := true }
def CipherPermutesUptoSaid : Prop := cipherPermutesUptoRow.holds Try.pinned (OpenSpec.upto cipherPermutesSpec)

/-- 'sectimelaw04.CipherBytes', WHERE WHAT IT READS IS OF BULK AT MOST 1048576: true; the input reads as it did. -/
def cipherBytesUptoRow : OpenClaim := { program := "ythooaeeajeajnaa", sum := "3b3cddba913da0d403b6500887326e348d285380a1b2178006db12d192d6ad92", func := "sectime/sectimelaw04.CipherBytes", spec := "cipherBytes", inPlace := ["internal/bytealg.IndexByteString", "internal/abi.NoEscape"], apart := false, narrowed := true }
def CipherBytesUptoSaid : Prop := cipherBytesUptoRow.holds Try.pinned (OpenSpec.upto cipherBytesSpec)

/-- 'sectimelaw05.CmacOneBlock', WHERE WHAT IT READS IS OF BULK AT MOST 1048576: true; the input reads as it did. -/
def cmacOneBlockUptoRow : OpenClaim := { program := "ythooaeeajeajnaa", sum := "3b3cddba913da0d403b6500887326e348d285380a1b2178006db12d192d6ad92", func := "sectime/sectimelaw05.CmacOneBlock", spec := "cmacOneBlock", inPlace := ["internal/bytealg.IndexByteString", "internal/abi.NoEscape"], apart := false, narrowed := true }
def CmacOneBlockUptoSaid : Prop := cmacOneBlockUptoRow.holds Try.pinned (OpenSpec.upto cmacOneBlockSpec)

/-- 'sectimelaw04.CipherUndoes', WHERE WHAT IT READS IS OF BULK AT MOST 1048576: true; the input reads as it did. -/
def cipherUndoesUptoRow : OpenClaim := { program := "ythooaeeajeajnaa", sum := "3b3cddba913da0d403b6500887326e348d285380a1b2178006db12d192d6ad92", func := "sectime/sectimelaw04.CipherUndoes", spec := "cipherUndoes", inPlace := ["internal/bytealg.IndexByteString", "internal/abi.NoEscape"], unfollowed := true, recurses := true, apart := false, narrowed := true }
def CipherUndoesUptoSaid : Prop := cipherUndoesUptoRow.holds Try.pinned (OpenSpec.upto cipherUndoesSpec)

/-- 'sectimelaw04.CipherGoesOn', WHERE WHAT IT READS IS OF BULK AT MOST 1048576: true; the input reads as it did. -/
def cipherGoesOnUptoRow : OpenClaim := { program := "ythooaeeajeajnaa", sum := "3b3cddba913da0d403b6500887326e348d285380a1b2178006db12d192d6ad92", func := "sectime/sectimelaw04.CipherGoesOn", spec := "cipherGoesOn", inPlace := ["internal/bytealg.IndexByteString", "internal/abi.NoEscape"], unfollowed := true, recurses := true, apart := false, narrowed := true }
def CipherGoesOnUptoSaid : Prop := cipherGoesOnUptoRow.holds Try.pinned (OpenSpec.upto cipherGoesOnSpec)

/-- 'sectimelaw04.CipherActs', WHERE WHAT IT READS IS OF BULK AT MOST 1048576: true; the input reads as it did. -/
def cipherActsUptoRow : OpenClaim := { program := "ythooaeeajeajnaa", sum := "3b3cddba913da0d403b6500887326e348d285380a1b2178006db12d192d6ad92", func := "sectime/sectimelaw04.CipherActs", spec := "cipherActs", inPlace := ["internal/bytealg.IndexByteString", "internal/abi.NoEscape"], unfollowed := true, recurses := true, apart := false, narrowed := true }
def CipherActsUptoSaid : Prop := cipherActsUptoRow.holds Try.pinned (OpenSpec.upto cipherActsSpec)

/-- 'sectimelaw05.CmacDoubles', WHERE WHAT IT READS IS OF BULK AT MOST 1048576: true; the input reads as it did. -/
def cmacDoublesUptoRow : OpenClaim := { program := "ythooaeeajeajnaa", sum := "3b3cddba913da0d403b6500887326e348d285380a1b2178006db12d192d6ad92", func := "sectime/sectimelaw05.CmacDoubles", spec := "cmacDoubles", inPlace := ["internal/bytealg.IndexByteString", "internal/abi.NoEscape"], apart := false, narrowed := true }
def CmacDoublesUptoSaid : Prop := cmacDoublesUptoRow.holds Try.pinned (OpenSpec.upto cmacDoublesSpec)

/-- 'sectimelaw05.CmacLengths', WHERE WHAT IT READS IS OF BULK AT MOST 1048576: true; the input reads as it did. -/
def cmacLengthsUptoRow : OpenClaim := { program := "ythooaeeajeajnaa", sum := "3b3cddba913da0d403b6500887326e348d285380a1b2178006db12d192d6ad92", func := "sectime/sectimelaw05.CmacLengths", spec := "cmacLengths", inPlace := ["internal/bytealg.IndexByteString", "internal/abi.NoEscape"], apart := false, narrowed := true }
def CmacLengthsUptoSaid : Prop := cmacLengthsUptoRow.holds Try.pinned (OpenSpec.upto cmacLengthsSpec)

/-- 'sectimelaw05.CmacActs', WHERE WHAT IT READS IS OF BULK AT MOST 1048576: true; the input reads as it did. -/
def cmacActsUptoRow : OpenClaim := { program := "ythooaeeajeajnaa", sum := "3b3cddba913da0d403b6500887326e348d285380a1b2178006db12d192d6ad92", func := "sectime/sectimelaw05.CmacActs", spec := "cmacActs", inPlace := ["internal/bytealg.IndexByteString", "internal/abi.NoEscape"], apart := false, narrowed := true }
def CmacActsUptoSaid : Prop := cmacActsUptoRow.holds Try.pinned (OpenSpec.upto cmacActsSpec)

/-- 'sectimelaw06.AeadParts', WHERE WHAT IT READS IS OF BULK AT MOST 1048576: true; the input reads as it did. -/
def aeadPartsUptoRow : OpenClaim := { program := "ythooaeeajeajnaa", sum := "3b3cddba913da0d403b6500887326e348d285380a1b2178006db12d192d6ad92", func := "sectime/sectimelaw06.AeadParts", spec := "aeadParts", inPlace := ["internal/bytealg.IndexByteString", "internal/abi.NoEscape"], unfollowed := true, recurses := true, apart := false, narrowed := true }
def AeadPartsUptoSaid : Prop := aeadPartsUptoRow.holds Try.pinned (OpenSpec.upto aeadPartsSpec)

/-- 'sectimelaw06.AeadActs', WHERE WHAT IT READS IS OF BULK AT MOST 1048576: true; the input reads as it did. -/
def aeadActsUptoRow : OpenClaim := { program := "ythooaeeajeajnaa", sum := "3b3cddba913da0d403b6500887326e348d285380a1b2178006db12d192d6ad92", func := "sectime/sectimelaw06.AeadActs", spec := "aeadActs", inPlace := ["internal/bytealg.IndexByteString", "internal/abi.NoEscape"], unfollowed := true, recurses := true, apart := false, narrowed := true }
def AeadActsUptoSaid : Prop := aeadActsUptoRow.holds Try.pinned (OpenSpec.upto aeadActsSpec)

/-- 'sectimelaw06.AeadOpens', WHERE WHAT IT READS IS OF BULK AT MOST 1048576: true; the input reads as it did. -/
def aeadOpensUptoRow : OpenClaim := { program := "ythooaeeajeajnaa", sum := "3b3cddba913da0d403b6500887326e348d285380a1b2178006db12d192d6ad92", func := "sectime/sectimelaw06.AeadOpens", spec := "aeadOpens", inPlace := ["internal/bytealg.IndexByteString", "internal/abi.NoEscape"], unfollowed := true, recurses := true, apart := false, narrowed := true }
def AeadOpensUptoSaid : Prop := aeadOpensUptoRow.holds Try.pinned (OpenSpec.upto aeadOpensSpec)

/-- 'sectimelaw06.AeadRefuses', WHERE WHAT IT READS IS OF BULK AT MOST 1048576: true; the input reads as it did. -/
def aeadRefusesUptoRow : OpenClaim := { program := "ythooaeeajeajnaa", sum := "3b3cddba913da0d403b6500887326e348d285380a1b2178006db12d192d6ad92", func := "sectime/sectimelaw06.AeadRefuses", spec := "aeadRefuses", inPlace := ["internal/bytealg.IndexByteString", "internal/abi.NoEscape"], unfollowed := true, recurses := true, apart := false, narrowed := true }
def AeadRefusesUptoSaid : Prop := aeadRefusesUptoRow.holds Try.pinned (OpenSpec.upto aeadRefusesSpec)

end Rows
end Go.Proofs.Ythooaeeajeajnaa
