/-
  No cell of these rows narrows 'for every input' (looked for: loops, veiled, ifaces, maps, wideKeys, modest, calm, conditions, laid).
  DERIVED. THE GIVEN ROWS OF THIS SEAT. 6 by the template 'for every input the law returns true; each argument reads behind the call as it read before'; 0 by the template 'total and deterministic' (their statements: YtmdahnkcnagkjaaGreatTotals.lean).
  GIVEN WITH THE SEED: the statements are not yours to turn. If you find one false, say at which input.
  Laid BY PROGRAM, IN A SANDBOX (cutbox-rows.mjs): the forced cells as the released guide's own fill.sh prints them over the translation c154e3d1aeedfa02… (all of the seat's roots in one cut). By AI agents, Wed Nov 11 2026. No macro, syntax, notation, axiom, sorry.
-/
import Derived.Test.YtmdahnkcnagkjaaGreatChecked
import GoSem.Claim
import GoSem.ClaimJoined
import GoSem.ClaimMapViews
import Derived.JoinedTies
import Derived.KernelRfl
namespace Go.Proofs.YtmdahnkcnagkjaaGreat
/- THE CELL 'sum', in the pinned program and in every row, IS THE sha256 OF THE DUMP (.gsa) THAT YtmdahnkcnagkjaaGreatProg.lean LOADS. Nothing in Lean hashes anything: it is a label: what it is worth is what the hold of that sum in a sandbox is worth. -/
noncomputable def Tryz.pinned : Pinned := { name := "ytmdahnkcnagkjaagreat", sum := "c154e3d1aeedfa028a07315c0b7911486dae3fcb5a1e57448a9e3cc085dc9c4b", checked := Tryz.checked }
namespace Rows
def none {H : Type} : Left H := { results := [], args := [] }

/-- 'sectimelaw26.TimeserverAnswers': WHATEVER THE INPUT: true; the input reads as it did. -/
def timeserverAnswersSpec : ChangeSpec := { name := "timeserverAnswers", fn := fun _ => fun
  | [d1, d2, d3, d4] => { results := [.lit (.bool true)], args := [d1, d2, d3, d4] }
  | _ => none }
def timeserverAnswersRow : OpenClaim := { program := "ytmdahnkcnagkjaagreat", sum := "c154e3d1aeedfa028a07315c0b7911486dae3fcb5a1e57448a9e3cc085dc9c4b", func := "sectime/sectimelaw26.TimeserverAnswers", spec := "timeserverAnswers", unfollowed := true, recurses := true, apart := false }
def TimeserverAnswersSaid : Prop := timeserverAnswersRow.holds Tryz.pinned (OpenSpec.ofChange timeserverAnswersSpec)

/-- ITS FALSE NEIGHBOUR: 'it returns false'. Refute it at one input. -/
def timeserverAnswersWrong : ChangeSpec := { name := "timeserverAnswers", fn := fun _ => fun
  | [d1, d2, d3, d4] => { results := [.lit (.bool false)], args := [d1, d2, d3, d4] }
  | _ => none }
def TimeserverAnswersWrongFalsely : Prop := timeserverAnswersRow.holds Tryz.pinned (OpenSpec.ofChange timeserverAnswersWrong)

/-- 'sectimelaw26.TimeserverAnswersAnything': WHATEVER THE INPUT: true; the input reads as it did. -/
def timeserverAnswersAnythingSpec : ChangeSpec := { name := "timeserverAnswersAnything", fn := fun _ => fun
  | [d1, d2, d3, d4, d5, d6, d7] => { results := [.lit (.bool true)], args := [d1, d2, d3, d4, d5, d6, d7] }
  | _ => none }
def timeserverAnswersAnythingRow : OpenClaim := { program := "ytmdahnkcnagkjaagreat", sum := "c154e3d1aeedfa028a07315c0b7911486dae3fcb5a1e57448a9e3cc085dc9c4b", func := "sectime/sectimelaw26.TimeserverAnswersAnything", spec := "timeserverAnswersAnything", unfollowed := true, recurses := true, apart := false }
def TimeserverAnswersAnythingSaid : Prop := timeserverAnswersAnythingRow.holds Tryz.pinned (OpenSpec.ofChange timeserverAnswersAnythingSpec)

/-- ITS FALSE NEIGHBOUR: 'it returns false'. Refute it at one input. -/
def timeserverAnswersAnythingWrong : ChangeSpec := { name := "timeserverAnswersAnything", fn := fun _ => fun
  | [d1, d2, d3, d4, d5, d6, d7] => { results := [.lit (.bool false)], args := [d1, d2, d3, d4, d5, d6, d7] }
  | _ => none }
def TimeserverAnswersAnythingWrongFalsely : Prop := timeserverAnswersAnythingRow.holds Tryz.pinned (OpenSpec.ofChange timeserverAnswersAnythingWrong)

/-- 'sectimelaw26.TimeserverNeverAmplifies': WHATEVER THE INPUT: true; the input reads as it did. -/
def timeserverNeverAmplifiesSpec : ChangeSpec := { name := "timeserverNeverAmplifies", fn := fun _ => fun
  | [d1, d2, d3] => { results := [.lit (.bool true)], args := [d1, d2, d3] }
  | _ => none }
def timeserverNeverAmplifiesRow : OpenClaim := { program := "ytmdahnkcnagkjaagreat", sum := "c154e3d1aeedfa028a07315c0b7911486dae3fcb5a1e57448a9e3cc085dc9c4b", func := "sectime/sectimelaw26.TimeserverNeverAmplifies", spec := "timeserverNeverAmplifies", unfollowed := true, recurses := true, apart := false }
def TimeserverNeverAmplifiesSaid : Prop := timeserverNeverAmplifiesRow.holds Tryz.pinned (OpenSpec.ofChange timeserverNeverAmplifiesSpec)

/-- ITS FALSE NEIGHBOUR: 'it returns false'. Refute it at one input. -/
def timeserverNeverAmplifiesWrong : ChangeSpec := { name := "timeserverNeverAmplifies", fn := fun _ => fun
  | [d1, d2, d3] => { results := [.lit (.bool false)], args := [d1, d2, d3] }
  | _ => none }
def TimeserverNeverAmplifiesWrongFalsely : Prop := timeserverNeverAmplifiesRow.holds Tryz.pinned (OpenSpec.ofChange timeserverNeverAmplifiesWrong)

/-- 'sectimelaw26.TimeserverKeepsNoState': WHATEVER THE INPUT: true; the input reads as it did. -/
def timeserverKeepsNoStateSpec : ChangeSpec := { name := "timeserverKeepsNoState", fn := fun _ => fun
  | [d1, d2, d3] => { results := [.lit (.bool true)], args := [d1, d2, d3] }
  | _ => none }
def timeserverKeepsNoStateRow : OpenClaim := { program := "ytmdahnkcnagkjaagreat", sum := "c154e3d1aeedfa028a07315c0b7911486dae3fcb5a1e57448a9e3cc085dc9c4b", func := "sectime/sectimelaw26.TimeserverKeepsNoState", spec := "timeserverKeepsNoState", unfollowed := true, recurses := true, apart := false }
def TimeserverKeepsNoStateSaid : Prop := timeserverKeepsNoStateRow.holds Tryz.pinned (OpenSpec.ofChange timeserverKeepsNoStateSpec)

/-- ITS FALSE NEIGHBOUR: 'it returns false'. Refute it at one input. -/
def timeserverKeepsNoStateWrong : ChangeSpec := { name := "timeserverKeepsNoState", fn := fun _ => fun
  | [d1, d2, d3] => { results := [.lit (.bool false)], args := [d1, d2, d3] }
  | _ => none }
def TimeserverKeepsNoStateWrongFalsely : Prop := timeserverKeepsNoStateRow.holds Tryz.pinned (OpenSpec.ofChange timeserverKeepsNoStateWrong)

/-- 'sectimelaw26.TimeserverForgetsOldKeys': WHATEVER THE INPUT: true; the input reads as it did. -/
def timeserverForgetsOldKeysSpec : ChangeSpec := { name := "timeserverForgetsOldKeys", fn := fun _ => fun
  | [d1, d2, d3, d4] => { results := [.lit (.bool true)], args := [d1, d2, d3, d4] }
  | _ => none }
def timeserverForgetsOldKeysRow : OpenClaim := { program := "ytmdahnkcnagkjaagreat", sum := "c154e3d1aeedfa028a07315c0b7911486dae3fcb5a1e57448a9e3cc085dc9c4b", func := "sectime/sectimelaw26.TimeserverForgetsOldKeys", spec := "timeserverForgetsOldKeys", unfollowed := true, recurses := true, apart := false }
def TimeserverForgetsOldKeysSaid : Prop := timeserverForgetsOldKeysRow.holds Tryz.pinned (OpenSpec.ofChange timeserverForgetsOldKeysSpec)

/-- ITS FALSE NEIGHBOUR: 'it returns false'. Refute it at one input. -/
def timeserverForgetsOldKeysWrong : ChangeSpec := { name := "timeserverForgetsOldKeys", fn := fun _ => fun
  | [d1, d2, d3, d4] => { results := [.lit (.bool false)], args := [d1, d2, d3, d4] }
  | _ => none }
def TimeserverForgetsOldKeysWrongFalsely : Prop := timeserverForgetsOldKeysRow.holds Tryz.pinned (OpenSpec.ofChange timeserverForgetsOldKeysWrong)

/-- 'sectimelaw26.TimeserverLimitsRates': WHATEVER THE INPUT: true; the input reads as it did. -/
def timeserverLimitsRatesSpec : ChangeSpec := { name := "timeserverLimitsRates", fn := fun _ => fun
  | [d1, d2, d3] => { results := [.lit (.bool true)], args := [d1, d2, d3] }
  | _ => none }
def timeserverLimitsRatesRow : OpenClaim := { program := "ytmdahnkcnagkjaagreat", sum := "c154e3d1aeedfa028a07315c0b7911486dae3fcb5a1e57448a9e3cc085dc9c4b", func := "sectime/sectimelaw26.TimeserverLimitsRates", spec := "timeserverLimitsRates", unfollowed := true, recurses := true, apart := false }
def TimeserverLimitsRatesSaid : Prop := timeserverLimitsRatesRow.holds Tryz.pinned (OpenSpec.ofChange timeserverLimitsRatesSpec)

/-- ITS FALSE NEIGHBOUR: 'it returns false'. Refute it at one input. -/
def timeserverLimitsRatesWrong : ChangeSpec := { name := "timeserverLimitsRates", fn := fun _ => fun
  | [d1, d2, d3] => { results := [.lit (.bool false)], args := [d1, d2, d3] }
  | _ => none }
def TimeserverLimitsRatesWrongFalsely : Prop := timeserverLimitsRatesRow.holds Tryz.pinned (OpenSpec.ofChange timeserverLimitsRatesWrong)

/- THE SECOND FORM. 'bulk': how many values and letters a reading holds, each counted each time it is reached (what is shared counts as often as it is met; a slice's spare places count too). A statement '..UptoSaid' is the law's where the arguments, and the package variables that the reading takes, are together of bulk at most 1048576: NARROWER than '..Said'. Prove '..Said' where nothing that the law and all that it calls make is longer than what came in: it says more and counts as full. Else prove '..UptoSaid'. A law counts once. -/
mutual
def uptoBulk {H : Type} : DataW H → Nat
  | .lit (.string bytes) => bytes.length + 1
  | .lit _ => 1
  | .nil => 1
  | .ptr d => uptoBulk d + 1
  | .slice elems spare => uptoBulkAll elems + uptoBulkAll spare + 1
  | .agg parts => uptoBulkAll parts + 1
  | .iface _ d => uptoBulk d + 1
  | .map entries => uptoBulkEntries entries + 1
  | .held _ => 1
def uptoBulkAll {H : Type} : List (DataW H) → Nat
  | [] => 0
  | d :: r => uptoBulk d + uptoBulkAll r
def uptoBulkEntries {H : Type} : List (Lit × DataW H) → Nat
  | [] => 0
  | x :: r => uptoBulkEntry x + uptoBulkEntries r
def uptoBulkEntry {H : Type} : Lit × DataW H → Nat
  | (.string bytes, d) => bytes.length + uptoBulk d + 1
  | (_, d) => uptoBulk d + 1
 end
def uptoSmall : (H : Type) → List (DataW H) → Bool := fun _ ds => decide (uptoBulkAll ds ≤ 1048576)
def OpenSpec.upto (s : _root_.Go.ChangeSpec) : _root_.Go.OpenSpec := { _root_.Go.OpenSpec.ofChange s with cond := some uptoSmall }

/-- 'sectimelaw26.TimeserverAnswers', WHERE WHAT IT READS IS OF BULK AT MOST 1048576: true; the input reads as it did. -/
def timeserverAnswersUptoRow : OpenClaim := { program := "ytmdahnkcnagkjaagreat", sum := "c154e3d1aeedfa028a07315c0b7911486dae3fcb5a1e57448a9e3cc085dc9c4b", func := "sectime/sectimelaw26.TimeserverAnswers", spec := "timeserverAnswers", unfollowed := true, recurses := true, apart := false, narrowed := true }
def TimeserverAnswersUptoSaid : Prop := timeserverAnswersUptoRow.holds Tryz.pinned (OpenSpec.upto timeserverAnswersSpec)

/-- 'sectimelaw26.TimeserverAnswersAnything', WHERE WHAT IT READS IS OF BULK AT MOST 1048576: true; the input reads as it did. -/
def timeserverAnswersAnythingUptoRow : OpenClaim := { program := "ytmdahnkcnagkjaagreat", sum := "c154e3d1aeedfa028a07315c0b7911486dae3fcb5a1e57448a9e3cc085dc9c4b", func := "sectime/sectimelaw26.TimeserverAnswersAnything", spec := "timeserverAnswersAnything", unfollowed := true, recurses := true, apart := false, narrowed := true }
def TimeserverAnswersAnythingUptoSaid : Prop := timeserverAnswersAnythingUptoRow.holds Tryz.pinned (OpenSpec.upto timeserverAnswersAnythingSpec)

/-- 'sectimelaw26.TimeserverNeverAmplifies', WHERE WHAT IT READS IS OF BULK AT MOST 1048576: true; the input reads as it did. -/
def timeserverNeverAmplifiesUptoRow : OpenClaim := { program := "ytmdahnkcnagkjaagreat", sum := "c154e3d1aeedfa028a07315c0b7911486dae3fcb5a1e57448a9e3cc085dc9c4b", func := "sectime/sectimelaw26.TimeserverNeverAmplifies", spec := "timeserverNeverAmplifies", unfollowed := true, recurses := true, apart := false, narrowed := true }
def TimeserverNeverAmplifiesUptoSaid : Prop := timeserverNeverAmplifiesUptoRow.holds Tryz.pinned (OpenSpec.upto timeserverNeverAmplifiesSpec)

/-- 'sectimelaw26.TimeserverKeepsNoState', WHERE WHAT IT READS IS OF BULK AT MOST 1048576: true; the input reads as it did. -/
def timeserverKeepsNoStateUptoRow : OpenClaim := { program := "ytmdahnkcnagkjaagreat", sum := "c154e3d1aeedfa028a07315c0b7911486dae3fcb5a1e57448a9e3cc085dc9c4b", func := "sectime/sectimelaw26.TimeserverKeepsNoState", spec := "timeserverKeepsNoState", unfollowed := true, recurses := true, apart := false, narrowed := true }
def TimeserverKeepsNoStateUptoSaid : Prop := timeserverKeepsNoStateUptoRow.holds Tryz.pinned (OpenSpec.upto timeserverKeepsNoStateSpec)

/-- 'sectimelaw26.TimeserverForgetsOldKeys', WHERE WHAT IT READS IS OF BULK AT MOST 1048576: true; the input reads as it did. -/
def timeserverForgetsOldKeysUptoRow : OpenClaim := { program := "ytmdahnkcnagkjaagreat", sum := "c154e3d1aeedfa028a07315c0b7911486dae3fcb5a1e57448a9e3cc085dc9c4b", func := "sectime/sectimelaw26.TimeserverForgetsOldKeys", spec := "timeserverForgetsOldKeys", unfollowed := true, recurses := true, apart := false, narrowed := true }
def TimeserverForgetsOldKeysUptoSaid : Prop := timeserverForgetsOldKeysUptoRow.holds Tryz.pinned (OpenSpec.upto timeserverForgetsOldKeysSpec)

/-- 'sectimelaw26.TimeserverLimitsRates', WHERE WHAT IT READS IS OF BULK AT MOST 1048576: true; the input reads as it did. -/
def timeserverLimitsRatesUptoRow : OpenClaim := { program := "ytmdahnkcnagkjaagreat", sum := "c154e3d1aeedfa028a07315c0b7911486dae3fcb5a1e57448a9e3cc085dc9c4b", func := "sectime/sectimelaw26.TimeserverLimitsRates", spec := "timeserverLimitsRates", unfollowed := true, recurses := true, apart := false, narrowed := true }
def TimeserverLimitsRatesUptoSaid : Prop := timeserverLimitsRatesUptoRow.holds Tryz.pinned (OpenSpec.upto timeserverLimitsRatesSpec)

end Rows
end Go.Proofs.YtmdahnkcnagkjaaGreat
