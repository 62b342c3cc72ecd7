/-
  NARROWER THAN 'FOR EVERY INPUT', by the rows' own cells (each row's printed sentence says how): WireTells: laid · WireReads: laid · WireLimits: laid · WireHeads: laid · WireTwo: laid · WireConnects: laid · StreamPlays: laid · StreamParts: laid · StreamDies: laid · StreamLeft: laid.
  DERIVED. THE GIVEN ROWS OF THIS SEAT. 10 by the template 'for every input the law returns true; each argument reads behind the call as it read before'; 0 by the template 'total and deterministic' (their statements: YtigjafbbnocihaaDoorTotals.lean).
  GIVEN WITH THE SEED: the statements are not yours to turn. If you find one false, say at which input.
  Laid BY PROGRAM, IN A SANDBOX (cutbox-rows.mjs): the forced cells as the released guide's own fill.sh prints them over the translation ed9d375d7edca8af… (all of the seat's roots in one cut). By AI agents, Wed Nov 11 2026. No macro, syntax, notation, axiom, sorry.
-/
import Derived.Test.YtigjafbbnocihaaDoorChecked
import GoSem.PinnedTables
import GoSem.Claim
import GoSem.ClaimJoined
import GoSem.ClaimMapViews
import Derived.JoinedTies
import Derived.KernelRfl
namespace Go.Proofs.YtigjafbbnocihaaDoor
/- THE CELL 'sum', in the pinned program and in every row, IS THE sha256 OF THE DUMP (.gsa) THAT YtigjafbbnocihaaDoorProg.lean LOADS. Nothing in Lean hashes anything: it is a label: what it is worth is what the hold of that sum in a sandbox is worth. -/
noncomputable def Tryd.pinned : Pinned := { name := "ytigjafbbnocihaadoor", sum := "ed9d375d7edca8afb92174fbe860570014888d9a0ddd6328fb568ccd1eb2fa0b", checked := Tryd.checked }
namespace Rows
def none {H : Type} : Left H := { results := [], args := [] }

/- WHAT THE LISTED PACKAGE-LEVEL VARIABLES READ AS WHEN THE CALL BEGINS. Each datum BY PROGRAM (the guide's laid-datum.mjs) off the statement by which the dump's own 'gosem.cut.vars' lays the variable. In a bare row this is a premise. The card (YtigjafbbnocihaaDoorCards.lean) ties it to the program's text. -/
def laid_unicode_utf8_acceptRanges {H : Type} : DataW H := .agg [.agg [.lit (.int .u8 128), .lit (.int .u8 191)], .agg [.lit (.int .u8 160), .lit (.int .u8 191)], .agg [.lit (.int .u8 128), .lit (.int .u8 159)], .agg [.lit (.int .u8 144), .lit (.int .u8 191)], .agg [.lit (.int .u8 128), .lit (.int .u8 143)], .agg [.lit (.int .u8 0), .lit (.int .u8 0)], .agg [.lit (.int .u8 0), .lit (.int .u8 0)], .agg [.lit (.int .u8 0), .lit (.int .u8 0)], .agg [.lit (.int .u8 0), .lit (.int .u8 0)], .agg [.lit (.int .u8 0), .lit (.int .u8 0)], .agg [.lit (.int .u8 0), .lit (.int .u8 0)], .agg [.lit (.int .u8 0), .lit (.int .u8 0)], .agg [.lit (.int .u8 0), .lit (.int .u8 0)], .agg [.lit (.int .u8 0), .lit (.int .u8 0)], .agg [.lit (.int .u8 0), .lit (.int .u8 0)], .agg [.lit (.int .u8 0), .lit (.int .u8 0)]]
/-- One of Go's own tables, pinned by name: the form's constant. -/
def laid_unicode_utf8_first : DataW Unit := Go.Pinned.utf8First

/-- 'hubbublaw3.WireTells': WHATEVER THE INPUT: true; the input reads as it did. -/
def wireTellsSpec : ChangeSpec := { name := "wireTells", fn := fun _ => fun
  | [d1, d2, d3, d4, d5, d6, d7, d8, d9, d10] => { results := [.lit (.bool true)], args := [d1, d2, d3, d4, d5, d6, d7, d8, d9, d10] }
  | _ => none }
def wireTellsRow : OpenClaim := { program := "ytigjafbbnocihaadoor", sum := "ed9d375d7edca8afb92174fbe860570014888d9a0ddd6328fb568ccd1eb2fa0b", func := "hubbub/hubbublaw3.WireTells", spec := "wireTells", unfollowed := true, recurses := true, named := ["unicode/utf8.first", "unicode/utf8.acceptRanges"], apart := false, laid := [("unicode/utf8.acceptRanges", laid_unicode_utf8_acceptRanges), ("unicode/utf8.first", laid_unicode_utf8_first)] }
def WireTellsSaid : Prop := wireTellsRow.holds Tryd.pinned (OpenSpec.ofChange wireTellsSpec)

/-- ITS FALSE NEIGHBOUR: 'it returns false'. Refute it at one input. -/
def wireTellsWrong : ChangeSpec := { name := "wireTells", fn := fun _ => fun
  | [d1, d2, d3, d4, d5, d6, d7, d8, d9, d10] => { results := [.lit (.bool false)], args := [d1, d2, d3, d4, d5, d6, d7, d8, d9, d10] }
  | _ => none }
def WireTellsWrongFalsely : Prop := wireTellsRow.holds Tryd.pinned (OpenSpec.ofChange wireTellsWrong)

/-- 'hubbublaw3.WireReads': WHATEVER THE INPUT: true; the input reads as it did. -/
def wireReadsSpec : ChangeSpec := { name := "wireReads", fn := fun _ => fun
  | [d1, d2, d3, d4, d5, d6, d7, d8, d9] => { results := [.lit (.bool true)], args := [d1, d2, d3, d4, d5, d6, d7, d8, d9] }
  | _ => none }
def wireReadsRow : OpenClaim := { program := "ytigjafbbnocihaadoor", sum := "ed9d375d7edca8afb92174fbe860570014888d9a0ddd6328fb568ccd1eb2fa0b", func := "hubbub/hubbublaw3.WireReads", spec := "wireReads", unfollowed := true, recurses := true, named := ["unicode/utf8.first", "unicode/utf8.acceptRanges"], apart := false, laid := [("unicode/utf8.acceptRanges", laid_unicode_utf8_acceptRanges), ("unicode/utf8.first", laid_unicode_utf8_first)] }
def WireReadsSaid : Prop := wireReadsRow.holds Tryd.pinned (OpenSpec.ofChange wireReadsSpec)

/-- ITS FALSE NEIGHBOUR: 'it returns false'. Refute it at one input. -/
def wireReadsWrong : ChangeSpec := { name := "wireReads", fn := fun _ => fun
  | [d1, d2, d3, d4, d5, d6, d7, d8, d9] => { results := [.lit (.bool false)], args := [d1, d2, d3, d4, d5, d6, d7, d8, d9] }
  | _ => none }
def WireReadsWrongFalsely : Prop := wireReadsRow.holds Tryd.pinned (OpenSpec.ofChange wireReadsWrong)

/-- 'hubbublaw3.WireLimits': WHATEVER THE INPUT: true; the input reads as it did. -/
def wireLimitsSpec : ChangeSpec := { name := "wireLimits", fn := fun _ => fun
  | [d1, d2] => { results := [.lit (.bool true)], args := [d1, d2] }
  | _ => none }
def wireLimitsRow : OpenClaim := { program := "ytigjafbbnocihaadoor", sum := "ed9d375d7edca8afb92174fbe860570014888d9a0ddd6328fb568ccd1eb2fa0b", func := "hubbub/hubbublaw3.WireLimits", spec := "wireLimits", unfollowed := true, recurses := true, named := ["unicode/utf8.first", "unicode/utf8.acceptRanges"], apart := false, laid := [("unicode/utf8.acceptRanges", laid_unicode_utf8_acceptRanges), ("unicode/utf8.first", laid_unicode_utf8_first)] }
def WireLimitsSaid : Prop := wireLimitsRow.holds Tryd.pinned (OpenSpec.ofChange wireLimitsSpec)

/-- ITS FALSE NEIGHBOUR: 'it returns false'. Refute it at one input. -/
def wireLimitsWrong : ChangeSpec := { name := "wireLimits", fn := fun _ => fun
  | [d1, d2] => { results := [.lit (.bool false)], args := [d1, d2] }
  | _ => none }
def WireLimitsWrongFalsely : Prop := wireLimitsRow.holds Tryd.pinned (OpenSpec.ofChange wireLimitsWrong)

/-- 'hubbublaw3.WireHeads': WHATEVER THE INPUT: true; the input reads as it did. -/
def wireHeadsSpec : ChangeSpec := { name := "wireHeads", fn := fun _ => fun
  | [d1, d2, d3] => { results := [.lit (.bool true)], args := [d1, d2, d3] }
  | _ => none }
def wireHeadsRow : OpenClaim := { program := "ytigjafbbnocihaadoor", sum := "ed9d375d7edca8afb92174fbe860570014888d9a0ddd6328fb568ccd1eb2fa0b", func := "hubbub/hubbublaw3.WireHeads", spec := "wireHeads", unfollowed := true, recurses := true, named := ["unicode/utf8.first", "unicode/utf8.acceptRanges"], apart := false, laid := [("unicode/utf8.acceptRanges", laid_unicode_utf8_acceptRanges), ("unicode/utf8.first", laid_unicode_utf8_first)] }
def WireHeadsSaid : Prop := wireHeadsRow.holds Tryd.pinned (OpenSpec.ofChange wireHeadsSpec)

/-- ITS FALSE NEIGHBOUR: 'it returns false'. Refute it at one input. -/
def wireHeadsWrong : ChangeSpec := { name := "wireHeads", fn := fun _ => fun
  | [d1, d2, d3] => { results := [.lit (.bool false)], args := [d1, d2, d3] }
  | _ => none }
def WireHeadsWrongFalsely : Prop := wireHeadsRow.holds Tryd.pinned (OpenSpec.ofChange wireHeadsWrong)

/-- 'hubbublaw3.WireTwo': WHATEVER THE INPUT: true; the input reads as it did. -/
def wireTwoSpec : ChangeSpec := { name := "wireTwo", fn := fun _ => fun
  | [d1, d2, d3, d4, d5, d6] => { results := [.lit (.bool true)], args := [d1, d2, d3, d4, d5, d6] }
  | _ => none }
def wireTwoRow : OpenClaim := { program := "ytigjafbbnocihaadoor", sum := "ed9d375d7edca8afb92174fbe860570014888d9a0ddd6328fb568ccd1eb2fa0b", func := "hubbub/hubbublaw3.WireTwo", spec := "wireTwo", unfollowed := true, recurses := true, named := ["unicode/utf8.first", "unicode/utf8.acceptRanges"], apart := false, laid := [("unicode/utf8.acceptRanges", laid_unicode_utf8_acceptRanges), ("unicode/utf8.first", laid_unicode_utf8_first)] }
def WireTwoSaid : Prop := wireTwoRow.holds Tryd.pinned (OpenSpec.ofChange wireTwoSpec)

/-- ITS FALSE NEIGHBOUR: 'it returns false'. Refute it at one input. -/
def wireTwoWrong : ChangeSpec := { name := "wireTwo", fn := fun _ => fun
  | [d1, d2, d3, d4, d5, d6] => { results := [.lit (.bool false)], args := [d1, d2, d3, d4, d5, d6] }
  | _ => none }
def WireTwoWrongFalsely : Prop := wireTwoRow.holds Tryd.pinned (OpenSpec.ofChange wireTwoWrong)

/-- 'hubbublaw3.WireConnects': WHATEVER THE INPUT: true; the input reads as it did. -/
def wireConnectsSpec : ChangeSpec := { name := "wireConnects", fn := fun _ => fun
  | [d1, d2, d3, d4, d5, d6, d7, d8, d9] => { results := [.lit (.bool true)], args := [d1, d2, d3, d4, d5, d6, d7, d8, d9] }
  | _ => none }
def wireConnectsRow : OpenClaim := { program := "ytigjafbbnocihaadoor", sum := "ed9d375d7edca8afb92174fbe860570014888d9a0ddd6328fb568ccd1eb2fa0b", func := "hubbub/hubbublaw3.WireConnects", spec := "wireConnects", unfollowed := true, recurses := true, named := ["unicode/utf8.first", "unicode/utf8.acceptRanges"], apart := false, laid := [("unicode/utf8.acceptRanges", laid_unicode_utf8_acceptRanges), ("unicode/utf8.first", laid_unicode_utf8_first)] }
def WireConnectsSaid : Prop := wireConnectsRow.holds Tryd.pinned (OpenSpec.ofChange wireConnectsSpec)

/-- ITS FALSE NEIGHBOUR: 'it returns false'. Refute it at one input. -/
def wireConnectsWrong : ChangeSpec := { name := "wireConnects", fn := fun _ => fun
  | [d1, d2, d3, d4, d5, d6, d7, d8, d9] => { results := [.lit (.bool false)], args := [d1, d2, d3, d4, d5, d6, d7, d8, d9] }
  | _ => none }
def WireConnectsWrongFalsely : Prop := wireConnectsRow.holds Tryd.pinned (OpenSpec.ofChange wireConnectsWrong)

/-- 'hubbublaw5.StreamPlays': WHATEVER THE INPUT: true; the input reads as it did. -/
def streamPlaysSpec : ChangeSpec := { name := "streamPlays", fn := fun _ => fun
  | [d1, d2, d3, d4] => { results := [.lit (.bool true)], args := [d1, d2, d3, d4] }
  | _ => none }
def streamPlaysRow : OpenClaim := { program := "ytigjafbbnocihaadoor", sum := "ed9d375d7edca8afb92174fbe860570014888d9a0ddd6328fb568ccd1eb2fa0b", func := "hubbub/hubbublaw5.StreamPlays", spec := "streamPlays", unfollowed := true, recurses := true, named := ["unicode/utf8.first", "unicode/utf8.acceptRanges"], apart := false, laid := [("unicode/utf8.acceptRanges", laid_unicode_utf8_acceptRanges), ("unicode/utf8.first", laid_unicode_utf8_first)] }
def StreamPlaysSaid : Prop := streamPlaysRow.holds Tryd.pinned (OpenSpec.ofChange streamPlaysSpec)

/-- ITS FALSE NEIGHBOUR: 'it returns false'. Refute it at one input. -/
def streamPlaysWrong : ChangeSpec := { name := "streamPlays", fn := fun _ => fun
  | [d1, d2, d3, d4] => { results := [.lit (.bool false)], args := [d1, d2, d3, d4] }
  | _ => none }
def StreamPlaysWrongFalsely : Prop := streamPlaysRow.holds Tryd.pinned (OpenSpec.ofChange streamPlaysWrong)

/-- 'hubbublaw5.StreamParts': WHATEVER THE INPUT: true; the input reads as it did. -/
def streamPartsSpec : ChangeSpec := { name := "streamParts", fn := fun _ => fun
  | [d1, d2, d3] => { results := [.lit (.bool true)], args := [d1, d2, d3] }
  | _ => none }
def streamPartsRow : OpenClaim := { program := "ytigjafbbnocihaadoor", sum := "ed9d375d7edca8afb92174fbe860570014888d9a0ddd6328fb568ccd1eb2fa0b", func := "hubbub/hubbublaw5.StreamParts", spec := "streamParts", unfollowed := true, recurses := true, named := ["unicode/utf8.first", "unicode/utf8.acceptRanges"], apart := false, laid := [("unicode/utf8.acceptRanges", laid_unicode_utf8_acceptRanges), ("unicode/utf8.first", laid_unicode_utf8_first)] }
def StreamPartsSaid : Prop := streamPartsRow.holds Tryd.pinned (OpenSpec.ofChange streamPartsSpec)

/-- ITS FALSE NEIGHBOUR: 'it returns false'. Refute it at one input. -/
def streamPartsWrong : ChangeSpec := { name := "streamParts", fn := fun _ => fun
  | [d1, d2, d3] => { results := [.lit (.bool false)], args := [d1, d2, d3] }
  | _ => none }
def StreamPartsWrongFalsely : Prop := streamPartsRow.holds Tryd.pinned (OpenSpec.ofChange streamPartsWrong)

/-- 'hubbublaw5.StreamDies': WHATEVER THE INPUT: true; the input reads as it did. -/
def streamDiesSpec : ChangeSpec := { name := "streamDies", fn := fun _ => fun
  | [d1, d2, d3] => { results := [.lit (.bool true)], args := [d1, d2, d3] }
  | _ => none }
def streamDiesRow : OpenClaim := { program := "ytigjafbbnocihaadoor", sum := "ed9d375d7edca8afb92174fbe860570014888d9a0ddd6328fb568ccd1eb2fa0b", func := "hubbub/hubbublaw5.StreamDies", spec := "streamDies", unfollowed := true, recurses := true, named := ["unicode/utf8.first", "unicode/utf8.acceptRanges"], apart := false, laid := [("unicode/utf8.acceptRanges", laid_unicode_utf8_acceptRanges), ("unicode/utf8.first", laid_unicode_utf8_first)] }
def StreamDiesSaid : Prop := streamDiesRow.holds Tryd.pinned (OpenSpec.ofChange streamDiesSpec)

/-- ITS FALSE NEIGHBOUR: 'it returns false'. Refute it at one input. -/
def streamDiesWrong : ChangeSpec := { name := "streamDies", fn := fun _ => fun
  | [d1, d2, d3] => { results := [.lit (.bool false)], args := [d1, d2, d3] }
  | _ => none }
def StreamDiesWrongFalsely : Prop := streamDiesRow.holds Tryd.pinned (OpenSpec.ofChange streamDiesWrong)

/-- 'hubbublaw5.StreamLeft': WHATEVER THE INPUT: true; the input reads as it did. -/
def streamLeftSpec : ChangeSpec := { name := "streamLeft", fn := fun _ => fun
  | [d1, d2, d3, d4, d5, d6] => { results := [.lit (.bool true)], args := [d1, d2, d3, d4, d5, d6] }
  | _ => none }
def streamLeftRow : OpenClaim := { program := "ytigjafbbnocihaadoor", sum := "ed9d375d7edca8afb92174fbe860570014888d9a0ddd6328fb568ccd1eb2fa0b", func := "hubbub/hubbublaw5.StreamLeft", spec := "streamLeft", unfollowed := true, recurses := true, named := ["unicode/utf8.first", "unicode/utf8.acceptRanges"], apart := false, laid := [("unicode/utf8.acceptRanges", laid_unicode_utf8_acceptRanges), ("unicode/utf8.first", laid_unicode_utf8_first)] }
def StreamLeftSaid : Prop := streamLeftRow.holds Tryd.pinned (OpenSpec.ofChange streamLeftSpec)

/-- ITS FALSE NEIGHBOUR: 'it returns false'. Refute it at one input. -/
def streamLeftWrong : ChangeSpec := { name := "streamLeft", fn := fun _ => fun
  | [d1, d2, d3, d4, d5, d6] => { results := [.lit (.bool false)], args := [d1, d2, d3, d4, d5, d6] }
  | _ => none }
def StreamLeftWrongFalsely : Prop := streamLeftRow.holds Tryd.pinned (OpenSpec.ofChange streamLeftWrong)

/- THE SECOND FORM. 'bulk': how many values and letters a reading holds, each counted each time it is reached (what is shared counts as often as it is met; a slice's spare places count too). A statement '..UptoSaid' is the law's where the arguments, and the package variables that the reading takes, are together of bulk at most 1048576: NARROWER than '..Said'. Prove '..Said' where nothing that the law and all that it calls make is longer than what came in: it says more and counts as full. Else prove '..UptoSaid'. A law counts once. -/
mutual
def uptoBulk {H : Type} : DataW H → Nat
  | .lit (.string bytes) => bytes.length + 1
  | .lit _ => 1
  | .nil => 1
  | .ptr d => uptoBulk d + 1
  | .slice elems spare => uptoBulkAll elems + uptoBulkAll spare + 1
  | .agg parts => uptoBulkAll parts + 1
  | .iface _ d => uptoBulk d + 1
  | .map entries => uptoBulkEntries entries + 1
  | .held _ => 1
def uptoBulkAll {H : Type} : List (DataW H) → Nat
  | [] => 0
  | d :: r => uptoBulk d + uptoBulkAll r
def uptoBulkEntries {H : Type} : List (Lit × DataW H) → Nat
  | [] => 0
  | x :: r => uptoBulkEntry x + uptoBulkEntries r
def uptoBulkEntry {H : Type} : Lit × DataW H → Nat
  | (.string bytes, d) => bytes.length + uptoBulk d + 1
  | (_, d) => uptoBulk d + 1
 end
def uptoSmall : (H : Type) → List (DataW H) → Bool := fun _ ds => decide (uptoBulkAll ds ≤ 1048576)
def OpenSpec.upto (s : _root_.Go.ChangeSpec) : _root_.Go.OpenSpec := { _root_.Go.OpenSpec.ofChange s with cond := some uptoSmall }

/-- 'hubbublaw3.WireTells', WHERE WHAT IT READS IS OF BULK AT MOST 1048576: true; the input reads as it did. -/
def wireTellsUptoRow : OpenClaim := { program := "ytigjafbbnocihaadoor", sum := "ed9d375d7edca8afb92174fbe860570014888d9a0ddd6328fb568ccd1eb2fa0b", func := "hubbub/hubbublaw3.WireTells", spec := "wireTells", unfollowed := true, recurses := true, named := ["unicode/utf8.first", "unicode/utf8.acceptRanges"], apart := false, laid := [("unicode/utf8.acceptRanges", laid_unicode_utf8_acceptRanges), ("unicode/utf8.first", laid_unicode_utf8_first)], narrowed := true }
def WireTellsUptoSaid : Prop := wireTellsUptoRow.holds Tryd.pinned (OpenSpec.upto wireTellsSpec)

/-- 'hubbublaw3.WireReads', WHERE WHAT IT READS IS OF BULK AT MOST 1048576: true; the input reads as it did. -/
def wireReadsUptoRow : OpenClaim := { program := "ytigjafbbnocihaadoor", sum := "ed9d375d7edca8afb92174fbe860570014888d9a0ddd6328fb568ccd1eb2fa0b", func := "hubbub/hubbublaw3.WireReads", spec := "wireReads", unfollowed := true, recurses := true, named := ["unicode/utf8.first", "unicode/utf8.acceptRanges"], apart := false, laid := [("unicode/utf8.acceptRanges", laid_unicode_utf8_acceptRanges), ("unicode/utf8.first", laid_unicode_utf8_first)], narrowed := true }
def WireReadsUptoSaid : Prop := wireReadsUptoRow.holds Tryd.pinned (OpenSpec.upto wireReadsSpec)

/-- 'hubbublaw3.WireLimits', WHERE WHAT IT READS IS OF BULK AT MOST 1048576: true; the input reads as it did. -/
def wireLimitsUptoRow : OpenClaim := { program := "ytigjafbbnocihaadoor", sum := "ed9d375d7edca8afb92174fbe860570014888d9a0ddd6328fb568ccd1eb2fa0b", func := "hubbub/hubbublaw3.WireLimits", spec := "wireLimits", unfollowed := true, recurses := true, named := ["unicode/utf8.first", "unicode/utf8.acceptRanges"], apart := false, laid := [("unicode/utf8.acceptRanges", laid_unicode_utf8_acceptRanges), ("unicode/utf8.first", laid_unicode_utf8_first)], narrowed := true }
def WireLimitsUptoSaid : Prop := wireLimitsUptoRow.holds Tryd.pinned (OpenSpec.upto wireLimitsSpec)

/-- 'hubbublaw3.WireHeads', WHERE WHAT IT READS IS OF BULK AT MOST 1048576: true; the input reads as it did. -/
def wireHeadsUptoRow : OpenClaim := { program := "ytigjafbbnocihaadoor", sum := "ed9d375d7edca8afb92174fbe860570014888d9a0ddd6328fb568ccd1eb2fa0b", func := "hubbub/hubbublaw3.WireHeads", spec := "wireHeads", unfollowed := true, recurses := true, named := ["unicode/utf8.first", "unicode/utf8.acceptRanges"], apart := false, laid := [("unicode/utf8.acceptRanges", laid_unicode_utf8_acceptRanges), ("unicode/utf8.first", laid_unicode_utf8_first)], narrowed := true }
def WireHeadsUptoSaid : Prop := wireHeadsUptoRow.holds Tryd.pinned (OpenSpec.upto wireHeadsSpec)

/-- 'hubbublaw3.WireTwo', WHERE WHAT IT READS IS OF BULK AT MOST 1048576: true; the input reads as it did. -/
def wireTwoUptoRow : OpenClaim := { program := "ytigjafbbnocihaadoor", sum := "ed9d375d7edca8afb92174fbe860570014888d9a0ddd6328fb568ccd1eb2fa0b", func := "hubbub/hubbublaw3.WireTwo", spec := "wireTwo", unfollowed := true, recurses := true, named := ["unicode/utf8.first", "unicode/utf8.acceptRanges"], apart := false, laid := [("unicode/utf8.acceptRanges", laid_unicode_utf8_acceptRanges), ("unicode/utf8.first", laid_unicode_utf8_first)], narrowed := true }
def WireTwoUptoSaid : Prop := wireTwoUptoRow.holds Tryd.pinned (OpenSpec.upto wireTwoSpec)

/-- 'hubbublaw3.WireConnects', WHERE WHAT IT READS IS OF BULK AT MOST 1048576: true; the input reads as it did. -/
def wireConnectsUptoRow : OpenClaim := { program := "ytigjafbbnocihaadoor", sum := "ed9d375d7edca8afb92174fbe860570014888d9a0ddd6328fb568ccd1eb2fa0b", func := "hubbub/hubbublaw3.WireConnects", spec := "wireConnects", unfollowed := true, recurses := true, named := ["unicode/utf8.first", "unicode/utf8.acceptRanges"], apart := false, laid := [("unicode/utf8.acceptRanges", laid_unicode_utf8_acceptRanges), ("unicode/utf8.first", laid_unicode_utf8_first)], narrowed := true }
def WireConnectsUptoSaid : Prop := wireConnectsUptoRow.holds Tryd.pinned (OpenSpec.upto wireConnectsSpec)

/-- 'hubbublaw5.StreamPlays', WHERE WHAT IT READS IS OF BULK AT MOST 1048576: true; the input reads as it did. -/
def streamPlaysUptoRow : OpenClaim := { program := "ytigjafbbnocihaadoor", sum := "ed9d375d7edca8afb92174fbe860570014888d9a0ddd6328fb568ccd1eb2fa0b", func := "hubbub/hubbublaw5.StreamPlays", spec := "streamPlays", unfollowed := true, recurses := true, named := ["unicode/utf8.first", "unicode/utf8.acceptRanges"], apart := false, laid := [("unicode/utf8.acceptRanges", laid_unicode_utf8_acceptRanges), ("unicode/utf8.first", laid_unicode_utf8_first)], narrowed := true }
def StreamPlaysUptoSaid : Prop := streamPlaysUptoRow.holds Tryd.pinned (OpenSpec.upto streamPlaysSpec)

/-- 'hubbublaw5.StreamParts', WHERE WHAT IT READS IS OF BULK AT MOST 1048576: true; the input reads as it did. -/
def streamPartsUptoRow : OpenClaim := { program := "ytigjafbbnocihaadoor", sum := "ed9d375d7edca8afb92174fbe860570014888d9a0ddd6328fb568ccd1eb2fa0b", func := "hubbub/hubbublaw5.StreamParts", spec := "streamParts", unfollowed := true, recurses := true, named := ["unicode/utf8.first", "unicode/utf8.acceptRanges"], apart := false, laid := [("unicode/utf8.acceptRanges", laid_unicode_utf8_acceptRanges), ("unicode/utf8.first", laid_unicode_utf8_first)], narrowed := true }
def StreamPartsUptoSaid : Prop := streamPartsUptoRow.holds Tryd.pinned (OpenSpec.upto streamPartsSpec)

/-- 'hubbublaw5.StreamDies', WHERE WHAT IT READS IS OF BULK AT MOST 1048576: true; the input reads as it did. -/
def streamDiesUptoRow : OpenClaim := { program := "ytigjafbbnocihaadoor", sum := "ed9d375d7edca8afb92174fbe860570014888d9a0ddd6328fb568ccd1eb2fa0b", func := "hubbub/hubbublaw5.StreamDies", spec := "streamDies", unfollowed := true, recurses := true, named := ["unicode/utf8.first", "unicode/utf8.acceptRanges"], apart := false, laid := [("unicode/utf8.acceptRanges", laid_unicode_utf8_acceptRanges), ("unicode/utf8.first", laid_unicode_utf8_first)], narrowed := true }
def StreamDiesUptoSaid : Prop := streamDiesUptoRow.holds Tryd.pinned (OpenSpec.upto streamDiesSpec)

/-- 'hubbublaw5.StreamLeft', WHERE WHAT IT READS IS OF BULK AT MOST 1048576: true; the input reads as it did. -/
def streamLeftUptoRow : OpenClaim := { program := "ytigjafbbnocihaadoor", sum := "ed9d375d7edca8afb92174fbe860570014888d9a0ddd6328fb568ccd1eb2fa0b", func := "hubbub/hubbublaw5.StreamLeft", spec := "streamLeft", unfollowed := true, recurses := true, named := ["unicode/utf8.first", "unicode/utf8.acceptRanges"], apart := false, laid := [("unicode/utf8.acceptRanges", laid_unicode_utf8_acceptRanges), ("unicode/utf8.first", laid_unicode_utf8_first)], narrowed := true }
def StreamLeftUptoSaid : Prop := streamLeftUptoRow.holds Tryd.pinned (OpenSpec.upto streamLeftSpec)

end Rows
end Go.Proofs.YtigjafbbnocihaaDoor
