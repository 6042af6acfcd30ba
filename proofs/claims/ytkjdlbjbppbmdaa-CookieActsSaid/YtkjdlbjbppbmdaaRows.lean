/-
  No cell of these rows narrows 'for every input' (looked for: loops, veiled, ifaces, maps, wideKeys, modest, calm, conditions, laid).
  DERIVED. THE GIVEN ROWS OF THIS SEAT. 16 by the template 'for every input the law returns true; each argument reads behind the call as it read before'; 0 by the template 'total and deterministic' (their statements: YtkjdlbjbppbmdaaTotals.lean).
  GIVEN WITH THE SEED: the statements are not yours to turn. If you find one false, say at which input.
  Laid BY PROGRAM, IN A SANDBOX (cutbox-rows.mjs): the forced cells as the released guide's own fill.sh prints them over the translation 46f29e3a5eb02940… (all of the seat's roots in one cut). By AI agents, Wed Nov 11 2026. No macro, syntax, notation, axiom, sorry.
-/
import Derived.Test.YtkjdlbjbppbmdaaChecked
import GoSem.Claim
import GoSem.ClaimJoined
import GoSem.ClaimMapViews
import Derived.JoinedTies
import Derived.KernelRfl
namespace Go.Proofs.Ytkjdlbjbppbmdaa
/- THE CELL 'sum', in the pinned program and in every row, IS THE sha256 OF THE DUMP (.gsa) THAT YtkjdlbjbppbmdaaProg.lean LOADS. Nothing in Lean hashes anything: it is a label: what it is worth is what the hold of that sum in a sandbox is worth. -/
noncomputable def Try.pinned : Pinned := { name := "ytkjdlbjbppbmdaa", sum := "46f29e3a5eb02940a482d52ceaaae1fcaa36d18c7deb759c03d9c5bd622bdffb", checked := Try.checked }
namespace Rows
def none {H : Type} : Left H := { results := [], args := [] }

/-- 'sectimelaw20.ChannelOrder': WHATEVER THE INPUT: true; the input reads as it did. -/
def channelOrderSpec : ChangeSpec := { name := "channelOrder", fn := fun _ => fun
  | [d1, d2, d3, d4] => { results := [.lit (.bool true)], args := [d1, d2, d3, d4] }
  | _ => none }
def channelOrderRow : OpenClaim := { program := "ytkjdlbjbppbmdaa", sum := "46f29e3a5eb02940a482d52ceaaae1fcaa36d18c7deb759c03d9c5bd622bdffb", func := "sectime/sectimelaw20.ChannelOrder", spec := "channelOrder", unfollowed := true, recurses := true, apart := false }
def ChannelOrderSaid : Prop := channelOrderRow.holds Try.pinned (OpenSpec.ofChange channelOrderSpec)

/-- ITS FALSE NEIGHBOUR: 'it returns false'. Refute it at one input. -/
def channelOrderWrong : ChangeSpec := { name := "channelOrder", fn := fun _ => fun
  | [d1, d2, d3, d4] => { results := [.lit (.bool false)], args := [d1, d2, d3, d4] }
  | _ => none }
def ChannelOrderWrongFalsely : Prop := channelOrderRow.holds Try.pinned (OpenSpec.ofChange channelOrderWrong)

/-- 'sectimelaw22.JarKeepsOrder': WHATEVER THE INPUT: true; the input reads as it did. -/
def jarKeepsOrderSpec : ChangeSpec := { name := "jarKeepsOrder", fn := fun _ => fun
  | [d1, d2, d3] => { results := [.lit (.bool true)], args := [d1, d2, d3] }
  | _ => none }
def jarKeepsOrderRow : OpenClaim := { program := "ytkjdlbjbppbmdaa", sum := "46f29e3a5eb02940a482d52ceaaae1fcaa36d18c7deb759c03d9c5bd622bdffb", func := "sectime/sectimelaw22.JarKeepsOrder", spec := "jarKeepsOrder", unfollowed := true, recurses := true, apart := false }
def JarKeepsOrderSaid : Prop := jarKeepsOrderRow.holds Try.pinned (OpenSpec.ofChange jarKeepsOrderSpec)

/-- ITS FALSE NEIGHBOUR: 'it returns false'. Refute it at one input. -/
def jarKeepsOrderWrong : ChangeSpec := { name := "jarKeepsOrder", fn := fun _ => fun
  | [d1, d2, d3] => { results := [.lit (.bool false)], args := [d1, d2, d3] }
  | _ => none }
def JarKeepsOrderWrongFalsely : Prop := jarKeepsOrderRow.holds Try.pinned (OpenSpec.ofChange jarKeepsOrderWrong)

/-- 'sectimelaw22.JarForgets': WHATEVER THE INPUT: true; the input reads as it did. -/
def jarForgetsSpec : ChangeSpec := { name := "jarForgets", fn := fun _ => fun
  | [d1, d2, d3] => { results := [.lit (.bool true)], args := [d1, d2, d3] }
  | _ => none }
def jarForgetsRow : OpenClaim := { program := "ytkjdlbjbppbmdaa", sum := "46f29e3a5eb02940a482d52ceaaae1fcaa36d18c7deb759c03d9c5bd622bdffb", func := "sectime/sectimelaw22.JarForgets", spec := "jarForgets", unfollowed := true, recurses := true, apart := false }
def JarForgetsSaid : Prop := jarForgetsRow.holds Try.pinned (OpenSpec.ofChange jarForgetsSpec)

/-- ITS FALSE NEIGHBOUR: 'it returns false'. Refute it at one input. -/
def jarForgetsWrong : ChangeSpec := { name := "jarForgets", fn := fun _ => fun
  | [d1, d2, d3] => { results := [.lit (.bool false)], args := [d1, d2, d3] }
  | _ => none }
def JarForgetsWrongFalsely : Prop := jarForgetsRow.holds Try.pinned (OpenSpec.ofChange jarForgetsWrong)

/-- 'sectimelaw19.CookieAges': WHATEVER THE INPUT: true; the input reads as it did. -/
def cookieAgesSpec : ChangeSpec := { name := "cookieAges", fn := fun _ => fun
  | [d1, d2, d3] => { results := [.lit (.bool true)], args := [d1, d2, d3] }
  | _ => none }
def cookieAgesRow : OpenClaim := { program := "ytkjdlbjbppbmdaa", sum := "46f29e3a5eb02940a482d52ceaaae1fcaa36d18c7deb759c03d9c5bd622bdffb", func := "sectime/sectimelaw19.CookieAges", spec := "cookieAges", unfollowed := true, recurses := true, apart := false }
def CookieAgesSaid : Prop := cookieAgesRow.holds Try.pinned (OpenSpec.ofChange cookieAgesSpec)

/-- ITS FALSE NEIGHBOUR: 'it returns false'. Refute it at one input. -/
def cookieAgesWrong : ChangeSpec := { name := "cookieAges", fn := fun _ => fun
  | [d1, d2, d3] => { results := [.lit (.bool false)], args := [d1, d2, d3] }
  | _ => none }
def CookieAgesWrongFalsely : Prop := cookieAgesRow.holds Try.pinned (OpenSpec.ofChange cookieAgesWrong)

/-- 'sectimelaw19.CookieRingsAgree': WHATEVER THE INPUT: true; the input reads as it did. -/
def cookieRingsAgreeSpec : ChangeSpec := { name := "cookieRingsAgree", fn := fun _ => fun
  | [d1, d2, d3] => { results := [.lit (.bool true)], args := [d1, d2, d3] }
  | _ => none }
def cookieRingsAgreeRow : OpenClaim := { program := "ytkjdlbjbppbmdaa", sum := "46f29e3a5eb02940a482d52ceaaae1fcaa36d18c7deb759c03d9c5bd622bdffb", func := "sectime/sectimelaw19.CookieRingsAgree", spec := "cookieRingsAgree", unfollowed := true, recurses := true, apart := false }
def CookieRingsAgreeSaid : Prop := cookieRingsAgreeRow.holds Try.pinned (OpenSpec.ofChange cookieRingsAgreeSpec)

/-- ITS FALSE NEIGHBOUR: 'it returns false'. Refute it at one input. -/
def cookieRingsAgreeWrong : ChangeSpec := { name := "cookieRingsAgree", fn := fun _ => fun
  | [d1, d2, d3] => { results := [.lit (.bool false)], args := [d1, d2, d3] }
  | _ => none }
def CookieRingsAgreeWrongFalsely : Prop := cookieRingsAgreeRow.holds Try.pinned (OpenSpec.ofChange cookieRingsAgreeWrong)

/-- 'sectimelaw20.ChannelTalks': WHATEVER THE INPUT: true; the input reads as it did. -/
def channelTalksSpec : ChangeSpec := { name := "channelTalks", fn := fun _ => fun
  | [d1, d2] => { results := [.lit (.bool true)], args := [d1, d2] }
  | _ => none }
def channelTalksRow : OpenClaim := { program := "ytkjdlbjbppbmdaa", sum := "46f29e3a5eb02940a482d52ceaaae1fcaa36d18c7deb759c03d9c5bd622bdffb", func := "sectime/sectimelaw20.ChannelTalks", spec := "channelTalks", unfollowed := true, recurses := true, apart := false }
def ChannelTalksSaid : Prop := channelTalksRow.holds Try.pinned (OpenSpec.ofChange channelTalksSpec)

/-- ITS FALSE NEIGHBOUR: 'it returns false'. Refute it at one input. -/
def channelTalksWrong : ChangeSpec := { name := "channelTalks", fn := fun _ => fun
  | [d1, d2] => { results := [.lit (.bool false)], args := [d1, d2] }
  | _ => none }
def ChannelTalksWrongFalsely : Prop := channelTalksRow.holds Try.pinned (OpenSpec.ofChange channelTalksWrong)

/-- 'sectimelaw19.CookieActs': WHATEVER THE INPUT: true; the input reads as it did. -/
def cookieActsSpec : ChangeSpec := { name := "cookieActs", fn := fun _ => fun
  | [d1, d2, d3, d4, d5, d6, d7] => { results := [.lit (.bool true)], args := [d1, d2, d3, d4, d5, d6, d7] }
  | _ => none }
def cookieActsRow : OpenClaim := { program := "ytkjdlbjbppbmdaa", sum := "46f29e3a5eb02940a482d52ceaaae1fcaa36d18c7deb759c03d9c5bd622bdffb", func := "sectime/sectimelaw19.CookieActs", spec := "cookieActs", unfollowed := true, recurses := true, apart := false }
def CookieActsSaid : Prop := cookieActsRow.holds Try.pinned (OpenSpec.ofChange cookieActsSpec)

/-- ITS FALSE NEIGHBOUR: 'it returns false'. Refute it at one input. -/
def cookieActsWrong : ChangeSpec := { name := "cookieActs", fn := fun _ => fun
  | [d1, d2, d3, d4, d5, d6, d7] => { results := [.lit (.bool false)], args := [d1, d2, d3, d4, d5, d6, d7] }
  | _ => none }
def CookieActsWrongFalsely : Prop := cookieActsRow.holds Try.pinned (OpenSpec.ofChange cookieActsWrong)

/-- 'sectimelaw19.CookieOpens': WHATEVER THE INPUT: true; the input reads as it did. -/
def cookieOpensSpec : ChangeSpec := { name := "cookieOpens", fn := fun _ => fun
  | [d1, d2, d3, d4, d5] => { results := [.lit (.bool true)], args := [d1, d2, d3, d4, d5] }
  | _ => none }
def cookieOpensRow : OpenClaim := { program := "ytkjdlbjbppbmdaa", sum := "46f29e3a5eb02940a482d52ceaaae1fcaa36d18c7deb759c03d9c5bd622bdffb", func := "sectime/sectimelaw19.CookieOpens", spec := "cookieOpens", unfollowed := true, recurses := true, apart := false }
def CookieOpensSaid : Prop := cookieOpensRow.holds Try.pinned (OpenSpec.ofChange cookieOpensSpec)

/-- ITS FALSE NEIGHBOUR: 'it returns false'. Refute it at one input. -/
def cookieOpensWrong : ChangeSpec := { name := "cookieOpens", fn := fun _ => fun
  | [d1, d2, d3, d4, d5] => { results := [.lit (.bool false)], args := [d1, d2, d3, d4, d5] }
  | _ => none }
def CookieOpensWrongFalsely : Prop := cookieOpensRow.holds Try.pinned (OpenSpec.ofChange cookieOpensWrong)

/-- 'sectimelaw20.ChannelActs': WHATEVER THE INPUT: true; the input reads as it did. -/
def channelActsSpec : ChangeSpec := { name := "channelActs", fn := fun _ => fun
  | [d1, d2, d3, d4, d5, d6, d7] => { results := [.lit (.bool true)], args := [d1, d2, d3, d4, d5, d6, d7] }
  | _ => none }
def channelActsRow : OpenClaim := { program := "ytkjdlbjbppbmdaa", sum := "46f29e3a5eb02940a482d52ceaaae1fcaa36d18c7deb759c03d9c5bd622bdffb", func := "sectime/sectimelaw20.ChannelActs", spec := "channelActs", unfollowed := true, recurses := true, apart := false }
def ChannelActsSaid : Prop := channelActsRow.holds Try.pinned (OpenSpec.ofChange channelActsSpec)

/-- ITS FALSE NEIGHBOUR: 'it returns false'. Refute it at one input. -/
def channelActsWrong : ChangeSpec := { name := "channelActs", fn := fun _ => fun
  | [d1, d2, d3, d4, d5, d6, d7] => { results := [.lit (.bool false)], args := [d1, d2, d3, d4, d5, d6, d7] }
  | _ => none }
def ChannelActsWrongFalsely : Prop := channelActsRow.holds Try.pinned (OpenSpec.ofChange channelActsWrong)

/-- 'sectimelaw20.ChannelExports': WHATEVER THE INPUT: true; the input reads as it did. -/
def channelExportsSpec : ChangeSpec := { name := "channelExports", fn := fun _ => fun
  | [d1, d2, d3, d4, d5] => { results := [.lit (.bool true)], args := [d1, d2, d3, d4, d5] }
  | _ => none }
def channelExportsRow : OpenClaim := { program := "ytkjdlbjbppbmdaa", sum := "46f29e3a5eb02940a482d52ceaaae1fcaa36d18c7deb759c03d9c5bd622bdffb", func := "sectime/sectimelaw20.ChannelExports", spec := "channelExports", unfollowed := true, recurses := true, apart := false }
def ChannelExportsSaid : Prop := channelExportsRow.holds Try.pinned (OpenSpec.ofChange channelExportsSpec)

/-- ITS FALSE NEIGHBOUR: 'it returns false'. Refute it at one input. -/
def channelExportsWrong : ChangeSpec := { name := "channelExports", fn := fun _ => fun
  | [d1, d2, d3, d4, d5] => { results := [.lit (.bool false)], args := [d1, d2, d3, d4, d5] }
  | _ => none }
def ChannelExportsWrongFalsely : Prop := channelExportsRow.holds Try.pinned (OpenSpec.ofChange channelExportsWrong)

/-- 'sectimelaw22.JarNeverRepeats': WHATEVER THE INPUT: true; the input reads as it did. -/
def jarNeverRepeatsSpec : ChangeSpec := { name := "jarNeverRepeats", fn := fun _ => fun
  | [d1, d2] => { results := [.lit (.bool true)], args := [d1, d2] }
  | _ => none }
def jarNeverRepeatsRow : OpenClaim := { program := "ytkjdlbjbppbmdaa", sum := "46f29e3a5eb02940a482d52ceaaae1fcaa36d18c7deb759c03d9c5bd622bdffb", func := "sectime/sectimelaw22.JarNeverRepeats", spec := "jarNeverRepeats", unfollowed := true, recurses := true, apart := false }
def JarNeverRepeatsSaid : Prop := jarNeverRepeatsRow.holds Try.pinned (OpenSpec.ofChange jarNeverRepeatsSpec)

/-- ITS FALSE NEIGHBOUR: 'it returns false'. Refute it at one input. -/
def jarNeverRepeatsWrong : ChangeSpec := { name := "jarNeverRepeats", fn := fun _ => fun
  | [d1, d2] => { results := [.lit (.bool false)], args := [d1, d2] }
  | _ => none }
def JarNeverRepeatsWrongFalsely : Prop := jarNeverRepeatsRow.holds Try.pinned (OpenSpec.ofChange jarNeverRepeatsWrong)

/-- 'sectimelaw18.ProtectLengths': WHATEVER THE INPUT: true; the input reads as it did. -/
def protectLengthsSpec : ChangeSpec := { name := "protectLengths", fn := fun _ => fun
  | [d1, d2, d3, d4] => { results := [.lit (.bool true)], args := [d1, d2, d3, d4] }
  | _ => none }
def protectLengthsRow : OpenClaim := { program := "ytkjdlbjbppbmdaa", sum := "46f29e3a5eb02940a482d52ceaaae1fcaa36d18c7deb759c03d9c5bd622bdffb", func := "sectime/sectimelaw18.ProtectLengths", spec := "protectLengths", unfollowed := true, recurses := true, apart := false }
def ProtectLengthsSaid : Prop := protectLengthsRow.holds Try.pinned (OpenSpec.ofChange protectLengthsSpec)

/-- ITS FALSE NEIGHBOUR: 'it returns false'. Refute it at one input. -/
def protectLengthsWrong : ChangeSpec := { name := "protectLengths", fn := fun _ => fun
  | [d1, d2, d3, d4] => { results := [.lit (.bool false)], args := [d1, d2, d3, d4] }
  | _ => none }
def ProtectLengthsWrongFalsely : Prop := protectLengthsRow.holds Try.pinned (OpenSpec.ofChange protectLengthsWrong)

/-- 'sectimelaw18.ProtectOpens': WHATEVER THE INPUT: true; the input reads as it did. -/
def protectOpensSpec : ChangeSpec := { name := "protectOpens", fn := fun _ => fun
  | [d1, d2, d3, d4, d5] => { results := [.lit (.bool true)], args := [d1, d2, d3, d4, d5] }
  | _ => none }
def protectOpensRow : OpenClaim := { program := "ytkjdlbjbppbmdaa", sum := "46f29e3a5eb02940a482d52ceaaae1fcaa36d18c7deb759c03d9c5bd622bdffb", func := "sectime/sectimelaw18.ProtectOpens", spec := "protectOpens", unfollowed := true, recurses := true, apart := false }
def ProtectOpensSaid : Prop := protectOpensRow.holds Try.pinned (OpenSpec.ofChange protectOpensSpec)

/-- ITS FALSE NEIGHBOUR: 'it returns false'. Refute it at one input. -/
def protectOpensWrong : ChangeSpec := { name := "protectOpens", fn := fun _ => fun
  | [d1, d2, d3, d4, d5] => { results := [.lit (.bool false)], args := [d1, d2, d3, d4, d5] }
  | _ => none }
def ProtectOpensWrongFalsely : Prop := protectOpensRow.holds Try.pinned (OpenSpec.ofChange protectOpensWrong)

/-- 'sectimelaw18.ProtectHides': WHATEVER THE INPUT: true; the input reads as it did. -/
def protectHidesSpec : ChangeSpec := { name := "protectHides", fn := fun _ => fun
  | [d1, d2, d3, d4, d5] => { results := [.lit (.bool true)], args := [d1, d2, d3, d4, d5] }
  | _ => none }
def protectHidesRow : OpenClaim := { program := "ytkjdlbjbppbmdaa", sum := "46f29e3a5eb02940a482d52ceaaae1fcaa36d18c7deb759c03d9c5bd622bdffb", func := "sectime/sectimelaw18.ProtectHides", spec := "protectHides", unfollowed := true, recurses := true, apart := false }
def ProtectHidesSaid : Prop := protectHidesRow.holds Try.pinned (OpenSpec.ofChange protectHidesSpec)

/-- ITS FALSE NEIGHBOUR: 'it returns false'. Refute it at one input. -/
def protectHidesWrong : ChangeSpec := { name := "protectHides", fn := fun _ => fun
  | [d1, d2, d3, d4, d5] => { results := [.lit (.bool false)], args := [d1, d2, d3, d4, d5] }
  | _ => none }
def ProtectHidesWrongFalsely : Prop := protectHidesRow.holds Try.pinned (OpenSpec.ofChange protectHidesWrong)

/-- 'sectimelaw18.ProtectSeals': WHATEVER THE INPUT: true; the input reads as it did. -/
def protectSealsSpec : ChangeSpec := { name := "protectSeals", fn := fun _ => fun
  | [d1, d2, d3] => { results := [.lit (.bool true)], args := [d1, d2, d3] }
  | _ => none }
def protectSealsRow : OpenClaim := { program := "ytkjdlbjbppbmdaa", sum := "46f29e3a5eb02940a482d52ceaaae1fcaa36d18c7deb759c03d9c5bd622bdffb", func := "sectime/sectimelaw18.ProtectSeals", spec := "protectSeals", unfollowed := true, recurses := true, apart := false }
def ProtectSealsSaid : Prop := protectSealsRow.holds Try.pinned (OpenSpec.ofChange protectSealsSpec)

/-- ITS FALSE NEIGHBOUR: 'it returns false'. Refute it at one input. -/
def protectSealsWrong : ChangeSpec := { name := "protectSeals", fn := fun _ => fun
  | [d1, d2, d3] => { results := [.lit (.bool false)], args := [d1, d2, d3] }
  | _ => none }
def ProtectSealsWrongFalsely : Prop := protectSealsRow.holds Try.pinned (OpenSpec.ofChange protectSealsWrong)

/-- 'sectimelaw22.JarQuestions': WHATEVER THE INPUT: true; the input reads as it did. -/
def jarQuestionsSpec : ChangeSpec := { name := "jarQuestions", fn := fun _ => fun
  | [d1, d2, d3, d4, d5] => { results := [.lit (.bool true)], args := [d1, d2, d3, d4, d5] }
  | _ => none }
def jarQuestionsRow : OpenClaim := { program := "ytkjdlbjbppbmdaa", sum := "46f29e3a5eb02940a482d52ceaaae1fcaa36d18c7deb759c03d9c5bd622bdffb", func := "sectime/sectimelaw22.JarQuestions", spec := "jarQuestions", unfollowed := true, recurses := true, apart := false }
def JarQuestionsSaid : Prop := jarQuestionsRow.holds Try.pinned (OpenSpec.ofChange jarQuestionsSpec)

/-- ITS FALSE NEIGHBOUR: 'it returns false'. Refute it at one input. -/
def jarQuestionsWrong : ChangeSpec := { name := "jarQuestions", fn := fun _ => fun
  | [d1, d2, d3, d4, d5] => { results := [.lit (.bool false)], args := [d1, d2, d3, d4, d5] }
  | _ => none }
def JarQuestionsWrongFalsely : Prop := jarQuestionsRow.holds Try.pinned (OpenSpec.ofChange jarQuestionsWrong)

/- THE SECOND FORM. 'bulk': how many values and letters a reading holds, each counted each time it is reached (what is shared counts as often as it is met; a slice's spare places count too). A statement '..UptoSaid' is the law's where the arguments, and the package variables that the reading takes, are together of bulk at most 1048576: NARROWER than '..Said'. Prove '..Said' where nothing that the law and all that it calls make is longer than what came in: it says more and counts as full. Else prove '..UptoSaid'. A law counts once. -/
mutual
def uptoBulk {H : Type} : DataW H → Nat
  | .lit (.string bytes) => bytes.length + 1
  | .lit _ => 1
  | .nil => 1
  | .ptr d => uptoBulk d + 1
  | .slice elems spare => uptoBulkAll elems + uptoBulkAll spare + 1
  | .agg parts => uptoBulkAll parts + 1
  | .iface _ d => uptoBulk d + 1
  | .map entries => uptoBulkEntries entries + 1
  | .held _ => 1
def uptoBulkAll {H : Type} : List (DataW H) → Nat
  | [] => 0
  | d :: r => uptoBulk d + uptoBulkAll r
def uptoBulkEntries {H : Type} : List (Lit × DataW H) → Nat
  | [] => 0
  | x :: r => uptoBulkEntry x + uptoBulkEntries r
def uptoBulkEntry {H : Type} : Lit × DataW H → Nat
  | (.string bytes, d) => bytes.length + uptoBulk d + 1
  | (_, d) => uptoBulk d + 1
 end
def uptoSmall : (H : Type) → List (DataW H) → Bool := fun _ ds => decide (uptoBulkAll ds ≤ 1048576)
def OpenSpec.upto (s : _root_.Go.ChangeSpec) : _root_.Go.OpenSpec := { _root_.Go.OpenSpec.ofChange s with cond := some uptoSmall }

/-- 'sectimelaw20.ChannelOrder', WHERE WHAT IT READS IS OF BULK AT MOST 1048576: true; the input reads as it did. -/
def channelOrderUptoRow : OpenClaim := { program := "ytkjdlbjbppbmdaa", sum := "46f29e3a5eb02940a482d52ceaaae1fcaa36d18c7deb759c03d9c5bd622bdffb", func := "sectime/sectimelaw20.ChannelOrder", spec := "channelOrder", unfollowed := true, recurses := true, apart := false, narrowed := true }
def ChannelOrderUptoSaid : Prop := channelOrderUptoRow.holds Try.pinned (OpenSpec.upto channelOrderSpec)

/-- 'sectimelaw22.JarKeepsOrder', WHERE WHAT IT READS IS OF BULK AT MOST 1048576: true; the input reads as it did. -/
def jarKeepsOrderUptoRow : OpenClaim := { program := "ytkjdlbjbppbmdaa", sum := "46f29e3a5eb02940a482d52ceaaae1fcaa36d18c7deb759c03d9c5bd622bdffb", func := "sectime/sectimelaw22.JarKeepsOrder", spec := "jarKeepsOrder", unfollowed := true, recurses := true, apart := false, narrowed := true }
def JarKeepsOrderUptoSaid : Prop := jarKeepsOrderUptoRow.holds Try.pinned (OpenSpec.upto jarKeepsOrderSpec)

/-- 'sectimelaw22.JarForgets', WHERE WHAT IT READS IS OF BULK AT MOST 1048576: true; the input reads as it did. -/
def jarForgetsUptoRow : OpenClaim := { program := "ytkjdlbjbppbmdaa", sum := "46f29e3a5eb02940a482d52ceaaae1fcaa36d18c7deb759c03d9c5bd622bdffb", func := "sectime/sectimelaw22.JarForgets", spec := "jarForgets", unfollowed := true, recurses := true, apart := false, narrowed := true }
def JarForgetsUptoSaid : Prop := jarForgetsUptoRow.holds Try.pinned (OpenSpec.upto jarForgetsSpec)

/-- 'sectimelaw19.CookieAges', WHERE WHAT IT READS IS OF BULK AT MOST 1048576: true; the input reads as it did. -/
def cookieAgesUptoRow : OpenClaim := { program := "ytkjdlbjbppbmdaa", sum := "46f29e3a5eb02940a482d52ceaaae1fcaa36d18c7deb759c03d9c5bd622bdffb", func := "sectime/sectimelaw19.CookieAges", spec := "cookieAges", unfollowed := true, recurses := true, apart := false, narrowed := true }
def CookieAgesUptoSaid : Prop := cookieAgesUptoRow.holds Try.pinned (OpenSpec.upto cookieAgesSpec)

/-- 'sectimelaw19.CookieRingsAgree', WHERE WHAT IT READS IS OF BULK AT MOST 1048576: true; the input reads as it did. -/
def cookieRingsAgreeUptoRow : OpenClaim := { program := "ytkjdlbjbppbmdaa", sum := "46f29e3a5eb02940a482d52ceaaae1fcaa36d18c7deb759c03d9c5bd622bdffb", func := "sectime/sectimelaw19.CookieRingsAgree", spec := "cookieRingsAgree", unfollowed := true, recurses := true, apart := false, narrowed := true }
def CookieRingsAgreeUptoSaid : Prop := cookieRingsAgreeUptoRow.holds Try.pinned (OpenSpec.upto cookieRingsAgreeSpec)

/-- 'sectimelaw20.ChannelTalks', WHERE WHAT IT READS IS OF BULK AT MOST 1048576: true; the input reads as it did. -/
def channelTalksUptoRow : OpenClaim := { program := "ytkjdlbjbppbmdaa", sum := "46f29e3a5eb02940a482d52ceaaae1fcaa36d18c7deb759c03d9c5bd622bdffb", func := "sectime/sectimelaw20.ChannelTalks", spec := "channelTalks", unfollowed := true, recurses := true, apart := false, narrowed := true }
def ChannelTalksUptoSaid : Prop := channelTalksUptoRow.holds Try.pinned (OpenSpec.upto channelTalksSpec)

/-- 'sectimelaw19.CookieActs', WHERE WHAT IT READS IS OF BULK AT MOST 1048576: true; the input reads as it did. -/
def cookieActsUptoRow : OpenClaim := { program := "ytkjdlbjbppbmdaa", sum := "46f29e3a5eb02940a482d52ceaaae1fcaa36d18c7deb759c03d9c5bd622bdffb", func := "sectime/sectimelaw19.CookieActs", spec := "cookieActs", unfollowed := true, recurses := true, apart := false, narrowed := true }
def CookieActsUptoSaid : Prop := cookieActsUptoRow.holds Try.pinned (OpenSpec.upto cookieActsSpec)

/-- 'sectimelaw19.CookieOpens', WHERE WHAT IT READS IS OF BULK AT MOST 1048576: true; the input reads as it did. -/
def cookieOpensUptoRow : OpenClaim := { program := "ytkjdlbjbppbmdaa", sum := "46f29e3a5eb02940a482d52ceaaae1fcaa36d18c7deb759c03d9c5bd622bdffb", func := "sectime/sectimelaw19.CookieOpens", spec := "cookieOpens", unfollowed := true, recurses := true, apart := false, narrowed := true }
def CookieOpensUptoSaid : Prop := cookieOpensUptoRow.holds Try.pinned (OpenSpec.upto cookieOpensSpec)

/-- 'sectimelaw20.ChannelActs', WHERE WHAT IT READS IS OF BULK AT MOST 1048576: true; the input reads as it did. -/
def channelActsUptoRow : OpenClaim := { program := "ytkjdlbjbppbmdaa", sum := "46f29e3a5eb02940a482d52ceaaae1fcaa36d18c7deb759c03d9c5bd622bdffb", func := "sectime/sectimelaw20.ChannelActs", spec := "channelActs", unfollowed := true, recurses := true, apart := false, narrowed := true }
def ChannelActsUptoSaid : Prop := channelActsUptoRow.holds Try.pinned (OpenSpec.upto channelActsSpec)

/-- 'sectimelaw20.ChannelExports', WHERE WHAT IT READS IS OF BULK AT MOST 1048576: true; the input reads as it did. -/
def channelExportsUptoRow : OpenClaim := { program := "ytkjdlbjbppbmdaa", sum := "46f29e3a5eb02940a482d52ceaaae1fcaa36d18c7deb759c03d9c5bd622bdffb", func := "sectime/sectimelaw20.ChannelExports", spec := "channelExports", unfollowed := true, recurses := true, apart := false, narrowed := true }
def ChannelExportsUptoSaid : Prop := channelExportsUptoRow.holds Try.pinned (OpenSpec.upto channelExportsSpec)

/-- 'sectimelaw22.JarNeverRepeats', WHERE WHAT IT READS IS OF BULK AT MOST 1048576: true; the input reads as it did. -/
def jarNeverRepeatsUptoRow : OpenClaim := { program := "ytkjdlbjbppbmdaa", sum := "46f29e3a5eb02940a482d52ceaaae1fcaa36d18c7deb759c03d9c5bd622bdffb", func := "sectime/sectimelaw22.JarNeverRepeats", spec := "jarNeverRepeats", unfollowed := true, recurses := true, apart := false, narrowed := true }
def JarNeverRepeatsUptoSaid : Prop := jarNeverRepeatsUptoRow.holds Try.pinned (OpenSpec.upto jarNeverRepeatsSpec)

/-- 'sectimelaw18.ProtectLengths', WHERE WHAT IT READS IS OF BULK AT MOST 1048576: true; the input reads as it did. -/
def protectLengthsUptoRow : OpenClaim := { program := "ytkjdlbjbppbmdaa", sum := "46f29e3a5eb02940a482d52ceaaae1fcaa36d18c7deb759c03d9c5bd622bdffb", func := "sectime/sectimelaw18.ProtectLengths", spec := "protectLengths", unfollowed := true, recurses := true, apart := false, narrowed := true }
def ProtectLengthsUptoSaid : Prop := protectLengthsUptoRow.holds Try.pinned (OpenSpec.upto protectLengthsSpec)

/-- 'sectimelaw18.ProtectOpens', WHERE WHAT IT READS IS OF BULK AT MOST 1048576: true; the input reads as it did. -/
def protectOpensUptoRow : OpenClaim := { program := "ytkjdlbjbppbmdaa", sum := "46f29e3a5eb02940a482d52ceaaae1fcaa36d18c7deb759c03d9c5bd622bdffb", func := "sectime/sectimelaw18.ProtectOpens", spec := "protectOpens", unfollowed := true, recurses := true, apart := false, narrowed := true }
def ProtectOpensUptoSaid : Prop := protectOpensUptoRow.holds Try.pinned (OpenSpec.upto protectOpensSpec)

/-- 'sectimelaw18.ProtectHides', WHERE WHAT IT READS IS OF BULK AT MOST 1048576: true; the input reads as it did. -/
def protectHidesUptoRow : OpenClaim := { program := "ytkjdlbjbppbmdaa", sum := "46f29e3a5eb02940a482d52ceaaae1fcaa36d18c7deb759c03d9c5bd622bdffb", func := "sectime/sectimelaw18.ProtectHides", spec := "protectHides", unfollowed := true, recurses := true, apart := false, narrowed := true }
def ProtectHidesUptoSaid : Prop := protectHidesUptoRow.holds Try.pinned (OpenSpec.upto protectHidesSpec)

/-- 'sectimelaw18.ProtectSeals', WHERE WHAT IT READS IS OF BULK AT MOST 1048576: true; the input reads as it did. -/
def protectSealsUptoRow : OpenClaim := { program := "ytkjdlbjbppbmdaa", sum := "46f29e3a5eb02940a482d52ceaaae1fcaa36d18c7deb759c03d9c5bd622bdffb", func := "sectime/sectimelaw18.ProtectSeals", spec := "protectSeals", unfollowed := true, recurses := true, apart := false, narrowed := true }
def ProtectSealsUptoSaid : Prop := protectSealsUptoRow.holds Try.pinned (OpenSpec.upto protectSealsSpec)

/-- 'sectimelaw22.JarQuestions', WHERE WHAT IT READS IS OF BULK AT MOST 1048576: true; the input reads as it did. -/
def jarQuestionsUptoRow : OpenClaim := { program := "ytkjdlbjbppbmdaa", sum := "46f29e3a5eb02940a482d52ceaaae1fcaa36d18c7deb759c03d9c5bd622bdffb", func := "sectime/sectimelaw22.JarQuestions", spec := "jarQuestions", unfollowed := true, recurses := true, apart := false, narrowed := true }
def JarQuestionsUptoSaid : Prop := jarQuestionsUptoRow.holds Try.pinned (OpenSpec.upto jarQuestionsSpec)

end Rows
end Go.Proofs.Ytkjdlbjbppbmdaa
